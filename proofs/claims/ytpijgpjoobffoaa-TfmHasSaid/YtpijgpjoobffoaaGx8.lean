/- Contracts of the functions of this seat: what each call computes, as a plain Lean function. Made by this session's own generator. -/
import Derived.Test.YtpijgpjoobffoaaGx0
import Derived.Test.YtpijgpjoobffoaaGx6
import Derived.Test.YtpijgpjoobffoaaGx7
namespace Go.Proofs.Ytpijgpjoobffoaa.G
open Go.RowKit Go.Proofs.YtpijgpjoobffoaaMy Go.Proofs.YtpijgpjoobffoaaW.PrintWords Go.Proofs.YtpijgpjoobffoaaW.PrintLast Go.Proofs.YtpijgpjoobffoaaW.PrintMore
attribute [local go_sem] max2_int min2_int max_two min_two max_three min_three max_four min_four   -- for this text's walks alone
set_option linter.unusedVariables false
set_option linter.unusedSimpArgs false

/-! ### tfm_Write: function 11 -/
-- by hand
def tfm_Write.puts (k : Nat) (z : Int) : List Int → List Int → Option (List Int)
 | [], xs => some xs
 | n :: l, xs => (pack_Put.f k xs n z).bind fun r => tfm_Write.puts k z l r.1
def tfm_Write.cells {α : Type} (f : α → List Int) : List α → List Int → Option (List Int)
 | [], xs => some xs
 | c :: l, xs => if xs.length < 1000000000000 then tfm_Write.cells f l (xs ++ f c) else none
def tfm_Write.lists (k : Nat) : List (List Int) → List Int → Option (List Int)
 | [], xs => some xs
 | l :: ls, xs => (tfm_out_fixes.f k l xs).bind fun ys => tfm_Write.lists k ls ys
def tfm_Write.char (c : S42) : List Int := [c.f0 % 256, (Go.bits .or .i64 (wrap64 (c.f1 * 16)) c.f2) % 256, (Go.bits .or .i64 (wrap64 (c.f3 * 4)) c.f4) % 256, c.f5 % 256]
def tfm_Write.step (s : S51) : List Int := [s.f0 % 256, s.f1 % 256, s.f2 % 256, s.f3 % 256]
def tfm_Write.head (a0_0 : Int) (a0_1 : Int) (a0_2 : Int) (l0_3 : List S42) (l0_4 : List Int) (l0_5 : List Int) (l0_6 : List Int) (l0_7 : List Int) (l0_8 : List S51) (l0_9 : List Int) (l0_10 : List Int) : List Int := [wrap64 (wrap64 (wrap64 (wrap64 (wrap64 (wrap64 (wrap64 (wrap64 (8 + (l0_3.length : Int)) + (l0_4.length : Int)) + (l0_5.length : Int)) + (l0_6.length : Int)) + (l0_7.length : Int)) + (l0_8.length : Int)) + (l0_9.length : Int)) + (l0_10.length : Int)), 2, a0_2, wrap64 (wrap64 (a0_2 + (l0_3.length : Int)) - 1), (l0_4.length : Int), (l0_5.length : Int), (l0_6.length : Int), (l0_7.length : Int), (l0_8.length : Int), (l0_9.length : Int), 0, (l0_10.length : Int)]
def tfm_Write.f (k : Nat) (a0_0 : Int) (a0_1 : Int) (a0_2 : Int) (l0_3 : List S42) (l0_4 : List Int) (l0_5 : List Int) (l0_6 : List Int) (l0_7 : List Int) (l0_8 : List S51) (l0_9 : List Int) (l0_10 : List Int) : Option (List Int × Int) :=
 (tfm_Check.f k a0_0 a0_1 a0_2 l0_3 l0_4 l0_5 l0_6 l0_7 l0_8 l0_9 l0_10).bind fun b => if b = true then (tfm_Write.puts k 2 (tfm_Write.head a0_0 a0_1 a0_2 l0_3 l0_4 l0_5 l0_6 l0_7 l0_8 l0_9 l0_10) []).bind fun x1 => (pack_Put.f k x1 a0_0 4).bind fun x2 => (pack_Put.f k x2.1 a0_1 4).bind fun x3 => (tfm_Write.cells tfm_Write.char l0_3 x3.1).bind fun x4 => (tfm_Write.lists k [l0_4, l0_5, l0_6, l0_7] x4).bind fun x5 => (tfm_Write.cells tfm_Write.step l0_8 x5).bind fun x6 => (tfm_out_fixes.f k l0_9 x6).bind fun x7 => (tfm_out_fixes.f k l0_10 x7).bind fun x8 => some (x8, 0) else some ([], 70)
theorem tfm_Write.mono_puts (k : Nat) (z : Int) (l : List Int) : ∀ xs, LeO (tfm_Write.puts k z l xs) (tfm_Write.puts (k + 1) z l xs) := by
 induction l with
 | nil => intro xs; exact LeO.refl _
 | cons p l ih => intro xs; exact LeO.bind (pack_Put.mono _ _ _ _) (fun ys => ih _)
theorem tfm_Write.mono_lists (k : Nat) (l : List (List Int)) : ∀ xs, LeO (tfm_Write.lists k l xs) (tfm_Write.lists (k + 1) l xs) := by
 induction l with
 | nil => intro xs; exact LeO.refl _
 | cons p l ih => intro xs; exact LeO.bind (tfm_out_fixes.mono _ _ _) (fun ys => ih _)
theorem tfm_Write.mono : ∀ a0_0 a0_1 a0_2 l0_3 l0_4 l0_5 l0_6 l0_7 l0_8 l0_9 l0_10 k, LeO (tfm_Write.f k a0_0 a0_1 a0_2 l0_3 l0_4 l0_5 l0_6 l0_7 l0_8 l0_9 l0_10) (tfm_Write.f (k + 1) a0_0 a0_1 a0_2 l0_3 l0_4 l0_5 l0_6 l0_7 l0_8 l0_9 l0_10) := by
 intro a0_0 a0_1 a0_2 l0_3 l0_4 l0_5 l0_6 l0_7 l0_8 l0_9 l0_10 k
 unfold tfm_Write.f
 exact LeO.bind (tfm_Check.mono _ _ _ _ _ _ _ _ _ _ _ _) (fun _ => LeO.ite (LeO.bind (tfm_Write.mono_puts _ _ _ _) (fun _ => LeO.bind (pack_Put.mono _ _ _ _) (fun _ => LeO.bind (pack_Put.mono _ _ _ _) (fun _ => LeO.bind (LeO.refl _) (fun _ => LeO.bind (tfm_Write.mono_lists _ _ _) (fun _ => LeO.bind (LeO.refl _) (fun _ => LeO.bind (tfm_out_fixes.mono _ _ _) (fun _ => LeO.bind (tfm_out_fixes.mono _ _ _) (fun _ => LeO.refl _))))))))) (LeO.refl _))
/-- A row of numbers keeps where another variable was written. -/
theorem tfm_Write.apart {k : IntKind} {e t g base : Nat} {ok : Nat → Prop} {v : Value} {xs : List Int} {W W2 : World} {cs : Array Value} (h : (Kd.int k).R e W base ok v xs) (hg : W.heap[g]? = some (.cells cs t (0, 0))) (ht : e ≠ t) (hk : ∀ j, j ≠ g → W2.heap[j]? = W.heap[j]?) : (Kd.int k).R e W2 base ok v xs :=
 Kd.R_mono (Kd.R_step (Kd.R_tight rfl h) (fun j hj _ => hk j (fun e2 => Kd.R_ne h hg ht (by rw [← e2, hj])))) (fun j hj => h.1 j hj.symm)
theorem tfm_Write.C_lit8 (W : World) (e : TypeId) (xs : List Int) (hm : xs.length ≤ 9223372036854775807) : Kd.C (Kd.int .u8) (W.alloc (.cells (nums .u8 xs).toArray e)) (some ⟨W.heap.size, 0, none⟩) xs.length xs := by
 have h := own_lit W W.heap.size e .u8 xs (Nat.le_refl _) hm
 have h2 : Kd.R (Kd.int .u8) e (W.alloc (.cells (nums .u8 xs).toArray e)) W.heap.size (fun _ => True) (.slice (some ⟨W.heap.size, 0, none⟩) xs.length xs.length) xs := Kd.R_of_own h (fun _ _ => trivial)
 obtain ⟨A, c, he, _, hC⟩ := Kd.R_reads h2
 injection he with he1 he2 he3
 subst he1
 exact hC
set_option maxHeartbeats 8000000 in
set_option maxRecDepth 100000 in
theorem tfm_Write.calls (k : Nat) (a0_0 : Int) (a0_1 : Int) (a0_2 : Int) (A0_3 : Option Addr) (c0_3 : Nat) (l0_3 : List S42) (A0_4 : Option Addr) (c0_4 : Nat) (l0_4 : List Int) (A0_5 : Option Addr) (c0_5 : Nat) (l0_5 : List Int) (A0_6 : Option Addr) (c0_6 : Nat) (l0_6 : List Int) (A0_7 : Option Addr) (c0_7 : Nat) (l0_7 : List Int) (A0_8 : Option Addr) (c0_8 : Nat) (l0_8 : List S51) (A0_9 : Option Addr) (c0_9 : Nat) (l0_9 : List Int) (A0_10 : Option Addr) (c0_10 : Nat) (l0_10 : List Int) (r1 : List Int) (r2 : Int) (w : World) (hr0_3 : Kd.C k42 w A0_3 l0_3.length l0_3) (hc0_3 : l0_3.length ≤ c0_3) (hr0_4 : Kd.C (Kd.int .i64) w A0_4 l0_4.length l0_4) (hc0_4 : l0_4.length ≤ c0_4) (hr0_5 : Kd.C (Kd.int .i64) w A0_5 l0_5.length l0_5) (hc0_5 : l0_5.length ≤ c0_5) (hr0_6 : Kd.C (Kd.int .i64) w A0_6 l0_6.length l0_6) (hc0_6 : l0_6.length ≤ c0_6) (hr0_7 : Kd.C (Kd.int .i64) w A0_7 l0_7.length l0_7) (hc0_7 : l0_7.length ≤ c0_7) (hr0_8 : Kd.C k51 w A0_8 l0_8.length l0_8) (hc0_8 : l0_8.length ≤ c0_8) (hr0_9 : Kd.C (Kd.int .i64) w A0_9 l0_9.length l0_9) (hc0_9 : l0_9.length ≤ c0_9) (hr0_10 : Kd.C (Kd.int .i64) w A0_10 l0_10.length l0_10) (hc0_10 : l0_10.length ≤ c0_10) (h : tfm_Write.f k a0_0 a0_1 a0_2 l0_3 l0_4 l0_5 l0_6 l0_7 l0_8 l0_9 l0_10 = some (r1, r2)) :
  Calls Try.prog 11 #[.agg #[.int .i64 a0_0, .int .i64 a0_1, .int .i64 a0_2, .slice A0_3 l0_3.length c0_3, .slice A0_4 l0_4.length c0_4, .slice A0_5 l0_5.length c0_5, .slice A0_6 l0_6.length c0_6, .slice A0_7 l0_7.length c0_7, .slice A0_8 l0_8.length c0_8, .slice A0_9 l0_9.length c0_9, .slice A0_10 l0_10.length c0_10]] w fun e w' => ∃ v0_ : Value, e = .returned (.tuple #[v0_, .int .i64 r2]) ∧ Kd.R (Kd.int .u8) 5 w' w.heap.size (fun _ => True) v0_ r1 ∧ Below w.heap.size w w' := by
 obtain ⟨b, hb, h⟩ := Option.bind_eq_some_iff.mp h
 have HB := Aside0.mk (Below.refl w.heap.size w)
 have HK := Aside0.mk (fun (W : World) (hB : Below w.heap.size w W) => tfm_Check.calls k a0_0 a0_1 a0_2 A0_3 c0_3 l0_3 A0_4 c0_4 l0_4 A0_5 c0_5 l0_5 A0_6 c0_6 l0_6 A0_7 c0_7 l0_7 A0_8 c0_8 l0_8 A0_9 c0_9 l0_9 A0_10 c0_10 l0_10 b W (Kd.C_below hr0_3 hB) hc0_3 (Kd.C_below hr0_4 hB) hc0_4 (Kd.C_below hr0_5 hB) hc0_5 (Kd.C_below hr0_6 hB) hc0_6 (Kd.C_below hr0_7 hB) hc0_7 (Kd.C_below hr0_8 hB) hc0_8 (Kd.C_below hr0_9 hB) hc0_9 (Kd.C_below hr0_10 hB) hc0_10 hb)
 have hu := Try.underlying26
 have hu2 := Try.underlying42
 have hu3 := Try.underlying51
 have hu4 := Try.underlying45
 have HR0_3 := Aside0.mk hr0_3
 have hm0_3 := hr0_3.2.1
 have HR0_4 := Aside0.mk hr0_4
 have hm0_4 := hr0_4.2.1
 have HR0_5 := Aside0.mk hr0_5
 have hm0_5 := hr0_5.2.1
 have HR0_6 := Aside0.mk hr0_6
 have hm0_6 := hr0_6.2.1
 have HR0_7 := Aside0.mk hr0_7
 have hm0_7 := hr0_7.2.1
 have HR0_8 := Aside0.mk hr0_8
 have hm0_8 := hr0_8.2.1
 have HR0_9 := Aside0.mk hr0_9
 have hm0_9 := hr0_9.2.1
 have HR0_10 := Aside0.mk hr0_10
 have hm0_10 := hr0_10.2.1
 clear hr0_3 hc0_3 hr0_4 hc0_4 hr0_5 hc0_5 hr0_6 hc0_6 hr0_7 hc0_7 hr0_8 hc0_8 hr0_9 hc0_9 hr0_10 hc0_10 hb
 cases b with
 | false =>
  rw [if_neg (by decide)] at h
  obtain ⟨rfl, rfl⟩ : [] = r1 ∧ 70 = r2 := by simpa using h
  clear h
  go_enter Try.func11, Try.ntmps11
  go_wp2_with (first | ((with_reducible refine gate_dst (N := 1) rfl ?_); refine box_event ?hg (N := 1) ?hd (cs := #[.int .i64 a0_0, .int .i64 a0_1, .int .i64 a0_2, .slice A0_3 l0_3.length c0_3, .slice A0_4 l0_4.length c0_4, .slice A0_5 l0_5.length c0_5, .slice A0_6 l0_6.length c0_6, .slice A0_7 l0_7.length c0_7, .slice A0_8 l0_8.length c0_8, .slice A0_9 l0_9.length c0_9, .slice A0_10 l0_10.length c0_10]) (t := 26) ?hr ?_; (case hd => rfl); (case hg => rfl); (case hr => first | (go_simp; done) | (go_simp; rfl)); intro gf hg wa hbox hb; have GEgf := Aside0.mk (show w.heap.size ≤ gf from hg ▸ below_size (by repeat (first | (with_reducible first | exact HB.out | apply below_alloc | apply pw_below_drewN | apply below_drew1) | exact HB.out))); have n0_ := Aside0.mk (below_step (by repeat (first | (with_reducible first | exact HB.out | apply below_alloc | apply pw_below_drewN | apply below_drew1) | exact HB.out)) hb); have BKgf := Aside0.mk hbox; have hxgf := blk_cell hbox; have hygf := blk_frozen hbox; clear HB; have HB := n0_; clear n0_ hb hbox hg) | ((with_reducible refine gate_ (.load 26 (.tmp 1)) rfl ?_); refine wpList_load_row rfl 26 (.tmp 1) rfl gf rfl 26 _ (0, 0) _ BKgf.out hu rfl (by kernel_rfl) ?_) | (go_at_call 13; (with_reducible refine (HK.out _ HB.out).mono ?_); rintro e w1 ⟨rfl, hb⟩; have z_ := Aside0.mk (blk_below BKgf.out hb); clear BKgf hxgf hygf; have BKgf := z_; clear z_; have hxgf := blk_cell BKgf.out; have hygf := blk_frozen BKgf.out; have n0_ := Aside0.mk (below_step HB.out hb); clear HB hb; have HB := n0_; clear n0_))
  go_ret2
  exact ⟨_, rfl, Kd.R_nil _ _ _ _ _, HB.out⟩
 | true =>
  rw [if_pos rfl] at h
  obtain ⟨x1, q1, h⟩ := Option.bind_eq_some_iff.mp h
  obtain ⟨⟨x2, e2⟩, q2, h⟩ := Option.bind_eq_some_iff.mp h
  obtain ⟨⟨x3, e3⟩, q3, h⟩ := Option.bind_eq_some_iff.mp h
  obtain ⟨x4, q4, h⟩ := Option.bind_eq_some_iff.mp h
  obtain ⟨x5, q5, h⟩ := Option.bind_eq_some_iff.mp h
  obtain ⟨x6, q6, h⟩ := Option.bind_eq_some_iff.mp h
  obtain ⟨x7, q7, h⟩ := Option.bind_eq_some_iff.mp h
  obtain ⟨x8, q8, h⟩ := Option.bind_eq_some_iff.mp h
  obtain ⟨rfl, rfl⟩ : x8 = r1 ∧ 0 = r2 := by simpa using h
  have Q1 := Aside0.mk q1
  have Q2 := Aside0.mk q2
  have Q3 := Aside0.mk q3
  have Q4 := Aside0.mk q4
  have Q5 := Aside0.mk q5
  have Q6 := Aside0.mk q6
  have Q7 := Aside0.mk q7
  have Q8 := Aside0.mk q8
  clear h q1 q2 q3 q4 q5 q6 q7 q8
  go_enter Try.func11, Try.ntmps11
  go_wp2_with (first | ((with_reducible refine gate_dst (N := 1) rfl ?_); refine box_event ?hg (N := 1) ?hd (cs := #[.int .i64 a0_0, .int .i64 a0_1, .int .i64 a0_2, .slice A0_3 l0_3.length c0_3, .slice A0_4 l0_4.length c0_4, .slice A0_5 l0_5.length c0_5, .slice A0_6 l0_6.length c0_6, .slice A0_7 l0_7.length c0_7, .slice A0_8 l0_8.length c0_8, .slice A0_9 l0_9.length c0_9, .slice A0_10 l0_10.length c0_10]) (t := 26) ?hr ?_; (case hd => rfl); (case hg => rfl); (case hr => first | (go_simp; done) | (go_simp; rfl)); intro gf hg wa hbox hb; have GEgf := Aside0.mk (show w.heap.size ≤ gf from hg ▸ below_size (by repeat (first | (with_reducible first | exact HB.out | apply below_alloc | apply pw_below_drewN | apply below_drew1) | exact HB.out))); have n0_ := Aside0.mk (below_step (by repeat (first | (with_reducible first | exact HB.out | apply below_alloc | apply pw_below_drewN | apply below_drew1) | exact HB.out)) hb); have BKgf := Aside0.mk hbox; have hxgf := blk_cell hbox; have hygf := blk_frozen hbox; clear HB; have HB := n0_; clear n0_ hb hbox hg) | ((with_reducible refine gate_ (.load 26 (.tmp 1)) rfl ?_); refine wpList_load_row rfl 26 (.tmp 1) rfl gf rfl 26 _ (0, 0) _ BKgf.out hu rfl (by kernel_rfl) ?_) | (go_at_call 13; (with_reducible refine (HK.out _ HB.out).mono ?_); rintro e w1 ⟨rfl, hb⟩; have z_ := Aside0.mk (blk_below BKgf.out hb); clear BKgf hxgf hygf; have BKgf := z_; clear z_; have hxgf := blk_cell BKgf.out; have hygf := blk_frozen BKgf.out; have n0_ := Aside0.mk (below_step HB.out hb); clear HB hb; have HB := n0_; clear n0_) | ((with_reducible refine gate_dst (N := 50) rfl ?_); refine box_event ?hg (N := 50) ?hd (cs := #[.slice none 0 0]) (t := 45) ?hr ?_; (case hd => rfl); (case hg => rfl); (case hr => first | (go_simp; done) | (go_simp; rfl)); intro g hg wb hbox hb; have NBg_gf := Aside0.mk (show g ≠ gf from by have z_ := (Array.getElem?_eq_some_iff.1 BKgf.out).1; omega); have NBgf_g := Aside0.mk (Ne.symm NBg_gf.out); have GEg := Aside0.mk (show w.heap.size ≤ g from hg ▸ below_size (by repeat (first | (with_reducible first | exact HB.out | apply below_alloc | apply pw_below_drewN | apply below_drew1) | exact HB.out))); have n0_ := Aside0.mk (below_step (by repeat (first | (with_reducible first | exact HB.out | apply below_alloc | apply pw_below_drewN | apply below_drew1) | exact HB.out)) hb); have BKg := Aside0.mk hbox; have hxg := blk_cell hbox; have hyg := blk_frozen hbox; have zgf := Aside0.mk (blk_below BKgf.out hb); clear BKgf hxgf hygf; have BKgf := zgf; clear zgf; have hxgf := blk_cell BKgf.out; have hygf := blk_frozen BKgf.out; clear HB; have HB := n0_; clear n0_ hb hbox hg) | ((with_reducible refine gate_dst (N := 82) rfl ?_); refine Kd.event_run (v := .slice (some ⟨wb.heap.size, 0, none⟩) 12 12) (w1 := wb.alloc (.cells #[.int .i64 (wrap64 (wrap64 (wrap64 (wrap64 (wrap64 (wrap64 (wrap64 (wrap64 (8 + (l0_3.length : Int)) + (l0_4.length : Int)) + (l0_5.length : Int)) + (l0_6.length : Int)) + (l0_7.length : Int)) + (l0_8.length : Int)) + (l0_9.length : Int)) + (l0_10.length : Int))), .int .i64 (2), .int .i64 (a0_2), .int .i64 (wrap64 (wrap64 (a0_2 + (l0_3.length : Int)) - 1)), .int .i64 ((l0_4.length : Int)), .int .i64 ((l0_5.length : Int)), .int .i64 ((l0_6.length : Int)), .int .i64 ((l0_7.length : Int)), .int .i64 ((l0_8.length : Int)), .int .i64 ((l0_9.length : Int)), .int .i64 (0), .int .i64 ((l0_10.length : Int))] 3)) rfl ?hr ?_; (case hr => first | (go_simp; done) | (go_simp; rfl))))
  have NL : wb.heap.size ≠ g := by have := (Array.getElem?_eq_some_iff.1 BKg.out).1; omega
  have H0 := Aside0.mk (show tfm_out_put.Holds wb w.heap.size g [] from ⟨_, BKg.out, GEg.out, Kd.R_nil _ _ _ _ _⟩)
  have hal : Below wb.heap.size wb (wb.alloc (.cells #[.int .i64 (wrap64 (wrap64 (wrap64 (wrap64 (wrap64 (wrap64 (wrap64 (wrap64 (8 + (l0_3.length : Int)) + (l0_4.length : Int)) + (l0_5.length : Int)) + (l0_6.length : Int)) + (l0_7.length : Int)) + (l0_8.length : Int)) + (l0_9.length : Int)) + (l0_10.length : Int))), .int .i64 (2), .int .i64 (a0_2), .int .i64 (wrap64 (wrap64 (a0_2 + (l0_3.length : Int)) - 1)), .int .i64 ((l0_4.length : Int)), .int .i64 ((l0_5.length : Int)), .int .i64 ((l0_6.length : Int)), .int .i64 ((l0_7.length : Int)), .int .i64 ((l0_8.length : Int)), .int .i64 ((l0_9.length : Int)), .int .i64 (0), .int .i64 ((l0_10.length : Int))] 3)) := below_alloc (Below.refl _ _) _
  have BKl0 := World.alloc_heap_new wb (.cells #[.int .i64 (wrap64 (wrap64 (wrap64 (wrap64 (wrap64 (wrap64 (wrap64 (wrap64 (8 + (l0_3.length : Int)) + (l0_4.length : Int)) + (l0_5.length : Int)) + (l0_6.length : Int)) + (l0_7.length : Int)) + (l0_8.length : Int)) + (l0_9.length : Int)) + (l0_10.length : Int))), .int .i64 (2), .int .i64 (a0_2), .int .i64 (wrap64 (wrap64 (a0_2 + (l0_3.length : Int)) - 1)), .int .i64 ((l0_4.length : Int)), .int .i64 ((l0_5.length : Int)), .int .i64 ((l0_6.length : Int)), .int .i64 ((l0_7.length : Int)), .int .i64 ((l0_8.length : Int)), .int .i64 ((l0_9.length : Int)), .int .i64 (0), .int .i64 ((l0_10.length : Int))] 3)
  obtain ⟨bl, hbl⟩ : ∃ bl, bl = wb.heap.size := ⟨_, rfl⟩
  rw [← hbl] at BKl0 NL
  simp only [← hbl]
  clear hbl
  have NBbl := Aside0.mk NL
  go_loopw [7, 84] (fun _ v84 wr => ∃ (i : Nat) (ys : List Int), i ≤ 12 ∧ v84 = .int .i64 i ∧ Aside0 (tfm_Write.puts k 2 ((tfm_Write.head a0_0 a0_1 a0_2 l0_3 l0_4 l0_5 l0_6 l0_7 l0_8 l0_9 l0_10).drop i) ys = some x1) ∧ Aside0 (tfm_out_put.Holds wr w.heap.size g ys) ∧ Aside0 (Below w.heap.size w wr) ∧ Aside0 (wr.heap[gf]? = some (.cells #[.int .i64 a0_0, .int .i64 a0_1, .int .i64 a0_2, .slice A0_3 l0_3.length c0_3, .slice A0_4 l0_4.length c0_4, .slice A0_5 l0_5.length c0_5, .slice A0_6 l0_6.length c0_6, .slice A0_7 l0_7.length c0_7, .slice A0_8 l0_8.length c0_8, .slice A0_9 l0_9.length c0_9, .slice A0_10 l0_10.length c0_10] 26 (0, 0))) ∧ Aside0 (wr.heap[bl]? = some (.cells ((tfm_Write.head a0_0 a0_1 a0_2 l0_3 l0_4 l0_5 l0_6 l0_7 l0_8 l0_9 l0_10).map fun n => Value.int .i64 n).toArray 3 (0, 0)))) (fun _ v84 _ => 12 - (intOf v84).toNat)
  case atStart => exact ⟨0, [], Nat.zero_le _, rfl, Q1, ⟨tfm_out_put.holds_below H0.out hal⟩, ⟨below_step HB.out hal⟩, ⟨blk_below BKgf.out hal⟩, ⟨BKl0⟩⟩
  case round =>
   clear H0 HB BKgf hxgf hygf BKg hxg hyg Q1 hal BKl0
   obtain ⟨i, ys, hii, rfl, HP, H0, HB, BKgf, BKbl⟩ := hrel
   have hxgf := blk_cell BKgf.out
   have hygf := blk_frozen BKgf.out
   by_cases hlt : i < 12
   ·have hltz : (i : Int) < 12 := by omega
    have hl12 : i < (tfm_Write.head a0_0 a0_1 a0_2 l0_3 l0_4 l0_5 l0_6 l0_7 l0_8 l0_9 l0_10).length := hlt
    have hcl : wr.cell? ⟨bl, i, none⟩ = some (.int .i64 (tfm_Write.head a0_0 a0_1 a0_2 l0_3 l0_4 l0_5 l0_6 l0_7 l0_8 l0_9 l0_10)[i]) := (blk_cell BKbl.out i).trans (by simp [hl12])
    have hq := HP.out
    rw [List.drop_eq_getElem_cons hl12, tfm_Write.puts] at hq
    obtain ⟨⟨s1, s2⟩, hz, hr⟩ := Option.bind_eq_some_iff.mp hq
    have HE := Aside0.mk hz
    have HR2 := Aside0.mk hr
    clear hq hz hr HP
    go_wp2_with (first | (go_at_call 20; (with_reducible refine (tfm_out_put.calls k _ 2 ys s1 s2 g w _ HB.out H0.out HE.out).mono ?_); rintro e w5 ⟨rfl, hh, hb, hs⟩; have z1_ := Aside0.mk (hs _ _ BKgf.out NBgf_g.out (fun _ e => by cases e)); clear BKgf hxgf hygf; have BKgf := z1_; clear z1_; have hxgf := blk_cell BKgf.out; have hygf := blk_frozen BKgf.out; have z4_ := Aside0.mk (hs _ _ BKbl.out NBbl.out (fun _ e => by cases e)); clear BKbl; have BKbl := z4_; clear z4_; have z2_ := Aside0.mk hh; have z3_ := Aside0.mk hb; clear H0 HB hh hb hs; have H0 := z2_; have HB := z3_; clear z2_ z3_))
    go_roundw
    case rel => exact ⟨i + 1, s1, by omega, by go_num, HR2, H0, HB, BKgf, BKbl⟩
    case measure => simp [intOf]; omega
   ·obtain rfl : i = 12 := by omega
    have hq := HP.out
    rw [show (tfm_Write.head a0_0 a0_1 a0_2 l0_3 l0_4 l0_5 l0_6 l0_7 l0_8 l0_9 l0_10).drop 12 = [] from rfl, tfm_Write.puts] at hq
    obtain rfl := Option.some.inj hq
    clear hq HP BKbl NBbl NL
    go_wp2_with (first | (go_at_call 20; (with_reducible refine (tfm_out_put.calls k a0_0 4 _ x2 e2 g w _ HB.out H0.out Q2.out).mono ?_); rintro e w5 ⟨rfl, hh, hb, hs⟩; have z1_ := Aside0.mk (hs _ _ BKgf.out NBgf_g.out (fun _ e => by cases e)); clear BKgf hxgf hygf; have BKgf := z1_; clear z1_; have hxgf := blk_cell BKgf.out; have hygf := blk_frozen BKgf.out; have z2_ := Aside0.mk hh; have z3_ := Aside0.mk hb; clear H0 HB hh hb hs; have H0 := z2_; have HB := z3_; clear z2_ z3_) | (go_at_call 20; (with_reducible refine (tfm_out_put.calls k a0_1 4 x2 x3 e3 g w _ HB.out H0.out Q3.out).mono ?_); rintro e w5 ⟨rfl, hh, hb, hs⟩; have z1_ := Aside0.mk (hs _ _ BKgf.out NBgf_g.out (fun _ e => by cases e)); clear BKgf hxgf hygf; have BKgf := z1_; clear z1_; have hxgf := blk_cell BKgf.out; have hygf := blk_frozen BKgf.out; have z2_ := Aside0.mk hh; have z3_ := Aside0.mk hb; clear H0 HB hh hb hs; have H0 := z2_; have HB := z3_; clear z2_ z3_))
    clear Q2 Q3
    go_loopw [103] (fun v103 wr => ∃ (i : Nat) (ys : List Int), i ≤ l0_3.length ∧ v103 = .int .i64 i ∧ Aside0 (tfm_Write.cells tfm_Write.char (l0_3.drop i) ys = some x4) ∧ Aside0 (tfm_out_put.Holds wr w.heap.size g ys) ∧ Aside0 (Below w.heap.size w wr) ∧ Aside0 (wr.heap[gf]? = some (.cells #[.int .i64 a0_0, .int .i64 a0_1, .int .i64 a0_2, .slice A0_3 l0_3.length c0_3, .slice A0_4 l0_4.length c0_4, .slice A0_5 l0_5.length c0_5, .slice A0_6 l0_6.length c0_6, .slice A0_7 l0_7.length c0_7, .slice A0_8 l0_8.length c0_8, .slice A0_9 l0_9.length c0_9, .slice A0_10 l0_10.length c0_10] 26 (0, 0)))) (fun v103 _ => l0_3.length - (intOf v103).toNat)
    case atStart => exact ⟨0, _, Nat.zero_le _, rfl, Q4, H0, HB, BKgf⟩
    case round =>
     clear H0 HB BKgf hxgf hygf Q4
     obtain ⟨i, ys, hii, rfl, HP, H0, HB, BKgf⟩ := hrel
     have hxgf := blk_cell BKgf.out
     have hygf := blk_frozen BKgf.out
     by_cases hlt : i < l0_3.length
     ·have hltz : (i : Int) < (l0_3.length : Int) := by omega
      obtain ⟨ad, cc, rfl, hcl, hK, hcc⟩ := C_elem HR0_3.out i hlt
      obtain ⟨x, hx⟩ : ∃ x, x = l0_3[i] := ⟨_, rfl⟩
      rw [← hx] at hK
      obtain rfl := k42_open hK
      have hcell0 : w.cell? (ad.add (i * 6)) = some (.int .i64 x.f0) := hcc 0 _ rfl
      have hcell1 : w.cell? ⟨(ad.add (i * 6)).block, (ad.add (i * 6)).off + 1, none⟩ = some (.int .i64 x.f1) := cell_add1 (by decide) (hcc 1 _ rfl)
      have hcell2 : w.cell? ⟨(ad.add (i * 6)).block, (ad.add (i * 6)).off + 2, none⟩ = some (.int .i64 x.f2) := cell_add1 (by decide) (hcc 2 _ rfl)
      have hcell3 : w.cell? ⟨(ad.add (i * 6)).block, (ad.add (i * 6)).off + 3, none⟩ = some (.int .i64 x.f3) := cell_add1 (by decide) (hcc 3 _ rfl)
      have hcell4 : w.cell? ⟨(ad.add (i * 6)).block, (ad.add (i * 6)).off + 4, none⟩ = some (.int .i64 x.f4) := cell_add1 (by decide) (hcc 4 _ rfl)
      have hcell5 : w.cell? ⟨(ad.add (i * 6)).block, (ad.add (i * 6)).off + 5, none⟩ = some (.int .i64 x.f5) := cell_add1 (by decide) (hcc 5 _ rfl)
      replace hcell0 := (HB.out.cell (World.block_lt_of_cell? w _ hcell0)).trans hcell0
      replace hcell1 := (HB.out.cell (World.block_lt_of_cell? w _ hcell1)).trans hcell1
      replace hcell2 := (HB.out.cell (World.block_lt_of_cell? w _ hcell2)).trans hcell2
      replace hcell3 := (HB.out.cell (World.block_lt_of_cell? w _ hcell3)).trans hcell3
      replace hcell4 := (HB.out.cell (World.block_lt_of_cell? w _ hcell4)).trans hcell4
      replace hcell5 := (HB.out.cell (World.block_lt_of_cell? w _ hcell5)).trans hcell5
      have hq := HP.out
      rw [List.drop_eq_getElem_cons hlt, ← hx, tfm_Write.cells] at hq
      by_cases hl' : ¬ ys.length < 1000000000000
      ·rw [if_neg hl'] at hq; cases hq
      have hl := Decidable.not_not.1 hl'
      rw [if_pos hl] at hq
      clear hl'
      obtain ⟨zs, hzs⟩ : ∃ zs, zs = ys ++ tfm_Write.char x := ⟨_, rfl⟩
      rw [← hzs] at hq
      have HZ := Aside0.mk hzs
      have HL := Aside0.mk hl
      have HA := Aside0.mk hq
      obtain ⟨v, h1, h2, h3⟩ := H0.out
      obtain ⟨A, c, e⟩ := Kd.R_slice h3
      subst e
      have BKg := Aside0.mk h1
      have hxg := blk_cell h1
      have hyg := blk_frozen h1
      have GEg := Aside0.mk h2
      have HO := Aside0.mk h3
      have NBg_gf := Aside0.mk (show g ≠ gf from tfm_out_put.ne_of h1 BKgf.out (by decide))
      have NBgf_g := Aside0.mk (Ne.symm NBg_gf.out)
      clear hcl hcc hx hq hl hzs HP H0 h1 h2 h3
      go_upto_region 15 with (first | ((with_reducible refine gate_dst (N := 9) rfl ?_); refine box_event ?hg (N := 9) ?hd (cs := #[.int .i64 0, .int .i64 0, .int .i64 0, .int .i64 0, .int .i64 0, .int .i64 0]) (t := 42) ?hr ?_; (case hd => rfl); (case hg => rfl); (case hr => first | (go_simp; done) | (go_simp; rfl)); intro gc hg wc hbox hb; have z8_ := Aside0.mk (Kd.R_below HO.out hb); clear HO; have HO := z8_; clear z8_; have NBgc_gf := Aside0.mk (show gc ≠ gf from by have z_ := (Array.getElem?_eq_some_iff.1 BKgf.out).1; omega); have NBgf_gc := Aside0.mk (Ne.symm NBgc_gf.out); have NBgc_g := Aside0.mk (show gc ≠ g from by have z_ := (Array.getElem?_eq_some_iff.1 BKg.out).1; omega); have NBg_gc := Aside0.mk (Ne.symm NBgc_g.out); have GEgc := Aside0.mk (show w.heap.size ≤ gc from hg ▸ below_size (by repeat (first | (with_reducible first | exact HB.out | apply below_alloc | apply pw_below_drewN | apply below_drew1) | exact HB.out))); have n0_ := Aside0.mk (below_step (by repeat (first | (with_reducible first | exact HB.out | apply below_alloc | apply pw_below_drewN | apply below_drew1) | exact HB.out)) hb); have BKgc := Aside0.mk hbox; have hxgc := blk_cell hbox; have hygc := blk_frozen hbox; have zgf := Aside0.mk (blk_below BKgf.out hb); clear BKgf hxgf hygf; have BKgf := zgf; clear zgf; have hxgf := blk_cell BKgf.out; have hygf := blk_frozen BKgf.out; have zg := Aside0.mk (blk_below BKg.out hb); clear BKg hxg hyg; have BKg := zg; clear zg; have hxg := blk_cell BKg.out; have hyg := blk_frozen BKg.out; clear HB; have HB := n0_; clear n0_ hb hbox hg) | ((with_reducible refine gate_store (t := 42) rfl ?_); refine store_row_event (base := w.heap.size) rfl rfl 42 _ _ rfl (g := gc) (by rfl) (by rfl) BKgc.out (by kernel_rfl) (by rfl) (by rfl) GEgc.out ?_; intro ws_ hs_ hk_ hb_; have z8_ := Aside0.mk (tfm_Write.apart HO.out BKgc.out (by decide) hk_); clear HO; have HO := z8_; clear z8_; have n0_ := Aside0.mk (HB.out.trans hb_); clear HB; have HB := n0_; clear n0_; have z_ := Aside0.mk ((hk_ gf NBgf_gc.out).trans BKgf.out); clear BKgf hxgf hygf; have BKgf := z_; clear z_; have hxgf := blk_cell BKgf.out; have hygf := blk_frozen BKgf.out; have z_ := Aside0.mk ((hk_ g NBg_gc.out).trans BKg.out); clear BKg hxg hyg; have BKg := z_; clear z_; have hxg := blk_cell BKg.out; have hyg := blk_frozen BKg.out; clear BKgc hxgc hygc; have BKgc := Aside0.mk hs_; have hxgc := blk_cell BKgc.out; have hygc := blk_frozen BKgc.out; clear hs_ hk_ hb_))
      clear hcell0 hcell1 hcell2 hcell3 hcell4 hcell5
      refine start_ (n := 30) (S := fun w' => w'.cell? ⟨g, 0, none⟩ = some (.slice A ys.length c) ∧ w'.cell? ⟨gc, 0, none⟩ = some (.int .i64 x.f0) ∧ w'.cell? ⟨gc, 1, none⟩ = some (.int .i64 x.f1) ∧ w'.cell? ⟨gc, 2, none⟩ = some (.int .i64 x.f2) ∧ w'.cell? ⟨gc, 3, none⟩ = some (.int .i64 x.f3) ∧ w'.cell? ⟨gc, 4, none⟩ = some (.int .i64 x.f4) ∧ w'.cell? ⟨gc, 5, none⟩ = some (.int .i64 x.f5)) (ds := [26, 29]) #[false, false, false, false, false, false, false, false, false, false, false, false, false, false, false, false, false, false, false, false, false, false, false, false, false, false, false, false, false, false] (by kernel_rfl) rfl rfl ⟨((blk_cell BKg.out 0).trans rfl), ((blk_cell BKgc.out 0).trans rfl), ((blk_cell BKgc.out 1).trans rfl), ((blk_cell BKgc.out 2).trans rfl), ((blk_cell BKgc.out 3).trans rfl), ((blk_cell BKgc.out 4).trans rfl), ((blk_cell BKgc.out 5).trans rfl)⟩ (fun hHeld => ?_)
      refine pure_ (i := 0) (N := some 107) (v := ?_) (a' := ?_) #[true, false, false, false, false, false, false, false, false, false, false, false, false, false, false, false, false, false, false, false, false, false, false, false, false, false, false, false, false, false] rfl rfl (by kernel_rfl) (fun _ _ _ h => h) (Or.inl ⟨by rfl, ?_⟩) ?_ ?_
      rotate_left
      ·intro w'
       go_simp
       with_reducible rfl
      rotate_left
      ·simp only [Act.put, List.setIfInBounds_toArray, List.set_cons_zero, List.set_cons_succ, i64_w, i32_w]
       rfl
      refine pure_ (i := 1) (N := some 108) (v := ?_) (a' := ?_) #[true, true, false, false, false, false, false, false, false, false, false, false, false, false, false, false, false, false, false, false, false, false, false, false, false, false, false, false, false, false] rfl rfl (by kernel_rfl) (fun _ _ _ h => h) (Or.inl ⟨by rfl, ?_⟩) ?_ ?_
      rotate_left
      ·intro w'
       go_simp
       with_reducible rfl
      rotate_left
      ·simp only [Act.put, List.setIfInBounds_toArray, List.set_cons_zero, List.set_cons_succ, i64_w, i32_w]
       rfl
      refine pure_ (i := 2) (N := some 109) (v := ?_) (a' := ?_) #[true, true, true, false, false, false, false, false, false, false, false, false, false, false, false, false, false, false, false, false, false, false, false, false, false, false, false, false, false, false] rfl rfl (by kernel_rfl) (fun _ _ _ h => h) (Or.inl ⟨by rfl, ?_⟩) ?_ ?_
      rotate_left
      ·intro w'
       go_simp
       with_reducible rfl
      rotate_left
      ·simp only [Act.put, List.setIfInBounds_toArray, List.set_cons_zero, List.set_cons_succ, i64_w, i32_w]
       rfl
      refine pure_ (i := 3) (N := some 110) (v := ?_) (a' := ?_) #[true, true, true, true, false, false, false, false, false, false, false, false, false, false, false, false, false, false, false, false, false, false, false, false, false, false, false, false, false, false] rfl rfl (by kernel_rfl) (fun _ _ _ h => h) (Or.inl ⟨by rfl, ?_⟩) ?_ ?_
      rotate_left
      ·intro w'
       go_simp
       with_reducible rfl
      rotate_left
      ·simp only [Act.put, List.setIfInBounds_toArray, List.set_cons_zero, List.set_cons_succ, i64_w, i32_w]
       rfl
      refine pure_ (i := 5) (N := some 112) (v := ?_) (a' := ?_) #[true, true, true, true, false, true, false, false, false, false, false, false, false, false, false, false, false, false, false, false, false, false, false, false, false, false, false, false, false, false] rfl rfl (by kernel_rfl) (fun _ _ _ h => h) (Or.inl ⟨by rfl, ?_⟩) ?_ ?_
      rotate_left
      ·intro w'
       go_simp
       with_reducible rfl
      rotate_left
      ·simp only [Act.put, List.setIfInBounds_toArray, List.set_cons_zero, List.set_cons_succ, i64_w, i32_w]
       rfl
      refine pure_ (i := 8) (N := some 115) (v := ?_) (a' := ?_) #[true, true, true, true, false, true, false, false, true, false, false, false, false, false, false, false, false, false, false, false, false, false, false, false, false, false, false, false, false, false] rfl rfl (by kernel_rfl) (fun _ _ _ h => h) (Or.inl ⟨by rfl, ?_⟩) ?_ ?_
      rotate_left
      ·intro w'
       go_simp
       with_reducible rfl
      rotate_left
      ·simp only [Act.put, List.setIfInBounds_toArray, List.set_cons_zero, List.set_cons_succ, i64_w, i32_w]
       rfl
      refine pure_ (i := 11) (N := some 118) (v := ?_) (a' := ?_) #[true, true, true, true, false, true, false, false, true, false, false, true, false, false, false, false, false, false, false, false, false, false, false, false, false, false, false, false, false, false] rfl rfl (by kernel_rfl) (fun _ _ _ h => h) (Or.inl ⟨by rfl, ?_⟩) ?_ ?_
      rotate_left
      ·intro w'
       go_simp
       with_reducible rfl
      rotate_left
      ·simp only [Act.put, List.setIfInBounds_toArray, List.set_cons_zero, List.set_cons_succ, i64_w, i32_w]
       rfl
      refine pure_ (i := 15) (N := some 122) (v := ?_) (a' := ?_) #[true, true, true, true, false, true, false, false, true, false, false, true, false, false, false, true, false, false, false, false, false, false, false, false, false, false, false, false, false, false] rfl rfl (by kernel_rfl) (fun _ _ _ h => h) (Or.inl ⟨by rfl, ?_⟩) ?_ ?_
      rotate_left
      ·intro w'
       go_simp
       with_reducible rfl
      rotate_left
      ·simp only [Act.put, List.setIfInBounds_toArray, List.set_cons_zero, List.set_cons_succ, i64_w, i32_w]
       rfl
      refine pure_ (i := 18) (N := some 125) (v := ?_) (a' := ?_) #[true, true, true, true, false, true, false, false, true, false, false, true, false, false, false, true, false, false, true, false, false, false, false, false, false, false, false, false, false, false] rfl rfl (by kernel_rfl) (fun _ _ _ h => h) (Or.inl ⟨by rfl, ?_⟩) ?_ ?_
      rotate_left
      ·intro w'
       go_simp
       with_reducible rfl
      rotate_left
      ·simp only [Act.put, List.setIfInBounds_toArray, List.set_cons_zero, List.set_cons_succ, i64_w, i32_w]
       rfl
      refine pure_ (i := 22) (N := some 129) (v := ?_) (a' := ?_) #[true, true, true, true, false, true, false, false, true, false, false, true, false, false, false, true, false, false, true, false, false, false, true, false, false, false, false, false, false, false] rfl rfl (by kernel_rfl) (fun _ _ _ h => h) (Or.inl ⟨by rfl, ?_⟩) ?_ ?_
      rotate_left
      ·intro w'
       go_simp
       with_reducible rfl
      rotate_left
      ·simp only [Act.put, List.setIfInBounds_toArray, List.set_cons_zero, List.set_cons_succ, i64_w, i32_w]
       rfl
      refine take_ (i := 4) (N := some 111) (v := ?_) (a' := ?_) #[true, true, true, true, true, true, false, false, true, false, false, true, false, false, false, true, false, false, true, false, false, false, true, false, false, false, false, false, false, false] rfl rfl (by kernel_rfl) (fun _ _ _ h => h) (Or.inl ⟨by rfl, ?_⟩) hHeld ?_ ?_
      rotate_left
      ·rintro w' ⟨s0, s1, s2, s3, s4, s5, s6⟩
       go_simp
       with_reducible rfl
      rotate_left
      ·simp only [Act.put, List.setIfInBounds_toArray, List.set_cons_zero, List.set_cons_succ, i64_w, i32_w]
       rfl
      refine take_ (i := 6) (N := some 113) (v := ?_) (a' := ?_) #[true, true, true, true, true, true, true, false, true, false, false, true, false, false, false, true, false, false, true, false, false, false, true, false, false, false, false, false, false, false] rfl rfl (by kernel_rfl) (fun _ _ _ h => h) (Or.inl ⟨by rfl, ?_⟩) hHeld ?_ ?_
      rotate_left
      ·rintro w' ⟨s0, s1, s2, s3, s4, s5, s6⟩
       go_simp
       with_reducible rfl
      rotate_left
      ·simp only [Act.put, List.setIfInBounds_toArray, List.set_cons_zero, List.set_cons_succ, i64_w, i32_w]
       rfl
      refine pure_ (i := 7) (N := some 114) (v := ?_) (a' := ?_) #[true, true, true, true, true, true, true, true, true, false, false, true, false, false, false, true, false, false, true, false, false, false, true, false, false, false, false, false, false, false] rfl rfl (by kernel_rfl) (fun _ _ _ h => h) (Or.inl ⟨by rfl, ?_⟩) ?_ ?_
      rotate_left
      ·intro w'
       go_simp
       with_reducible rfl
      rotate_left
      ·simp only [Act.put, List.setIfInBounds_toArray, List.set_cons_zero, List.set_cons_succ, i64_w, i32_w]
       rfl
      refine take_ (i := 9) (N := some 116) (v := ?_) (a' := ?_) #[true, true, true, true, true, true, true, true, true, true, false, true, false, false, false, true, false, false, true, false, false, false, true, false, false, false, false, false, false, false] rfl rfl (by kernel_rfl) (fun _ _ _ h => h) (Or.inl ⟨by rfl, ?_⟩) hHeld ?_ ?_
      rotate_left
      ·rintro w' ⟨s0, s1, s2, s3, s4, s5, s6⟩
       go_simp
       with_reducible rfl
      rotate_left
      ·simp only [Act.put, List.setIfInBounds_toArray, List.set_cons_zero, List.set_cons_succ, i64_w, i32_w]
       rfl
      refine pure_ (i := 10) (N := some 117) (v := ?_) (a' := ?_) #[true, true, true, true, true, true, true, true, true, true, true, true, false, false, false, true, false, false, true, false, false, false, true, false, false, false, false, false, false, false] rfl rfl (by kernel_rfl) (fun _ _ _ h => h) (Or.inl ⟨by rfl, ?_⟩) ?_ ?_
      rotate_left
      ·intro w'
       go_simp
       with_reducible rfl
      rotate_left
      ·simp only [Act.put, List.setIfInBounds_toArray, List.set_cons_zero, List.set_cons_succ, i64_w, i32_w]
       rfl
      refine take_ (i := 12) (N := some 119) (v := ?_) (a' := ?_) #[true, true, true, true, true, true, true, true, true, true, true, true, true, false, false, true, false, false, true, false, false, false, true, false, false, false, false, false, false, false] rfl rfl (by kernel_rfl) (fun _ _ _ h => h) (Or.inl ⟨by rfl, ?_⟩) hHeld ?_ ?_
      rotate_left
      ·rintro w' ⟨s0, s1, s2, s3, s4, s5, s6⟩
       go_simp
       with_reducible rfl
      rotate_left
      ·simp only [Act.put, List.setIfInBounds_toArray, List.set_cons_zero, List.set_cons_succ, i64_w, i32_w]
       rfl
      refine pure_ (i := 13) (N := some 120) (v := ?_) (a' := ?_) #[true, true, true, true, true, true, true, true, true, true, true, true, true, true, false, true, false, false, true, false, false, false, true, false, false, false, false, false, false, false] rfl rfl (by kernel_rfl) (fun _ _ _ h => h) (Or.inl ⟨by rfl, ?_⟩) ?_ ?_
      rotate_left
      ·intro w'
       go_simp
       with_reducible rfl
      rotate_left
      ·simp only [Act.put, List.setIfInBounds_toArray, List.set_cons_zero, List.set_cons_succ, i64_w, i32_w]
       rfl
      refine pure_ (i := 14) (N := some 121) (v := ?_) (a' := ?_) #[true, true, true, true, true, true, true, true, true, true, true, true, true, true, true, true, false, false, true, false, false, false, true, false, false, false, false, false, false, false] rfl rfl (by kernel_rfl) (fun _ _ _ h => h) (Or.inl ⟨by rfl, ?_⟩) ?_ ?_
      rotate_left
      ·intro w'
       go_simp
       with_reducible rfl
      rotate_left
      ·simp only [Act.put, List.setIfInBounds_toArray, List.set_cons_zero, List.set_cons_succ, i64_w, i32_w]
       rfl
      refine take_ (i := 16) (N := some 123) (v := ?_) (a' := ?_) #[true, true, true, true, true, true, true, true, true, true, true, true, true, true, true, true, true, false, true, false, false, false, true, false, false, false, false, false, false, false] rfl rfl (by kernel_rfl) (fun _ _ _ h => h) (Or.inl ⟨by rfl, ?_⟩) hHeld ?_ ?_
      rotate_left
      ·rintro w' ⟨s0, s1, s2, s3, s4, s5, s6⟩
       go_simp
       with_reducible rfl
      rotate_left
      ·simp only [Act.put, List.setIfInBounds_toArray, List.set_cons_zero, List.set_cons_succ, i64_w, i32_w]
       rfl
      refine pure_ (i := 17) (N := some 124) (v := ?_) (a' := ?_) #[true, true, true, true, true, true, true, true, true, true, true, true, true, true, true, true, true, true, true, false, false, false, true, false, false, false, false, false, false, false] rfl rfl (by kernel_rfl) (fun _ _ _ h => h) (Or.inl ⟨by rfl, ?_⟩) ?_ ?_
      rotate_left
      ·intro w'
       go_simp
       with_reducible rfl
      rotate_left
      ·simp only [Act.put, List.setIfInBounds_toArray, List.set_cons_zero, List.set_cons_succ, i64_w, i32_w]
       rfl
      refine take_ (i := 19) (N := some 126) (v := ?_) (a' := ?_) #[true, true, true, true, true, true, true, true, true, true, true, true, true, true, true, true, true, true, true, true, false, false, true, false, false, false, false, false, false, false] rfl rfl (by kernel_rfl) (fun _ _ _ h => h) (Or.inl ⟨by rfl, ?_⟩) hHeld ?_ ?_
      rotate_left
      ·rintro w' ⟨s0, s1, s2, s3, s4, s5, s6⟩
       go_simp
       with_reducible rfl
      rotate_left
      ·simp only [Act.put, List.setIfInBounds_toArray, List.set_cons_zero, List.set_cons_succ, i64_w, i32_w]
       rfl
      refine pure_ (i := 20) (N := some 127) (v := ?_) (a' := ?_) #[true, true, true, true, true, true, true, true, true, true, true, true, true, true, true, true, true, true, true, true, true, false, true, false, false, false, false, false, false, false] rfl rfl (by kernel_rfl) (fun _ _ _ h => h) (Or.inl ⟨by rfl, ?_⟩) ?_ ?_
      rotate_left
      ·intro w'
       go_simp
       with_reducible rfl
      rotate_left
      ·simp only [Act.put, List.setIfInBounds_toArray, List.set_cons_zero, List.set_cons_succ, i64_w, i32_w]
       rfl
      refine pure_ (i := 21) (N := some 128) (v := ?_) (a' := ?_) #[true, true, true, true, true, true, true, true, true, true, true, true, true, true, true, true, true, true, true, true, true, true, true, false, false, false, false, false, false, false] rfl rfl (by kernel_rfl) (fun _ _ _ h => h) (Or.inl ⟨by rfl, ?_⟩) ?_ ?_
      rotate_left
      ·intro w'
       go_simp
       with_reducible rfl
      rotate_left
      ·simp only [Act.put, List.setIfInBounds_toArray, List.set_cons_zero, List.set_cons_succ, i64_w, i32_w]
       rfl
      refine take_ (i := 23) (N := some 130) (v := ?_) (a' := ?_) #[true, true, true, true, true, true, true, true, true, true, true, true, true, true, true, true, true, true, true, true, true, true, true, true, false, false, false, false, false, false] rfl rfl (by kernel_rfl) (fun _ _ _ h => h) (Or.inl ⟨by rfl, ?_⟩) hHeld ?_ ?_
      rotate_left
      ·rintro w' ⟨s0, s1, s2, s3, s4, s5, s6⟩
       go_simp
       with_reducible rfl
      rotate_left
      ·simp only [Act.put, List.setIfInBounds_toArray, List.set_cons_zero, List.set_cons_succ, i64_w, i32_w]
       rfl
      refine pure_ (i := 24) (N := some 131) (v := ?_) (a' := ?_) #[true, true, true, true, true, true, true, true, true, true, true, true, true, true, true, true, true, true, true, true, true, true, true, true, true, false, false, false, false, false] rfl rfl (by kernel_rfl) (fun _ _ _ h => h) (Or.inl ⟨by rfl, ?_⟩) ?_ ?_
      rotate_left
      ·intro w'
       go_simp
       with_reducible rfl
      rotate_left
      ·simp only [Act.put, List.setIfInBounds_toArray, List.set_cons_zero, List.set_cons_succ, i64_w, i32_w]
       rfl
      refine one_ (i := 25) (N := some 132) #[true, true, true, true, true, true, true, true, true, true, true, true, true, true, true, true, true, true, true, true, true, true, true, true, true, true, false, false, false, false] rfl rfl (by kernel_rfl) (by decide) (fun K hK => ?_)
      refine value_ (w1 := ?_) (v := ?_) (by rfl) rfl ?_ ?_
      rotate_left 2
      ·go_simp
       constructor
       ·rfl
       ·rfl
      have hal_ : Below ws_.heap.size ws_ ((ws_.drew).alloc (.cells (nums .u8 (tfm_Write.char x)).toArray 5)) := below_alloc (below_drew1 (Below.refl _ _)) _
      have BK1 := Aside0.mk (blk_below BKg.out hal_)
      have BK2 := Aside0.mk (blk_below BKgc.out hal_)
      have BK3 := Aside0.mk (blk_below BKgf.out hal_)
      clear hal_
      refine hK.out _ _ ⟨((blk_cell BK1.out 0).trans rfl), ((blk_cell BK2.out 0).trans rfl), ((blk_cell BK2.out 1).trans rfl), ((blk_cell BK2.out 2).trans rfl), ((blk_cell BK2.out 3).trans rfl), ((blk_cell BK2.out 4).trans rfl), ((blk_cell BK2.out 5).trans rfl)⟩ (fun hHeld => ?_)
      clear hK K
      refine norm_ (a' := ?_) ?_ ?_
      rotate_left
      ·show Act.put _ (some 132) _ = _
       simp only [Act.put, List.setIfInBounds_toArray, List.set_cons_zero, List.set_cons_succ, i64_w, i32_w]
       rfl
      refine last_ (i := 26) (N := some 133) #[true, true, true, true, true, true, true, true, true, true, true, true, true, true, true, true, true, true, true, true, true, true, true, true, true, true, true, false, false, false] rfl rfl (by kernel_rfl) (by decide) (fun K hK => ?_)
      refine Kd.R_append_rows_step (Kd.int .u8) (w0 := w) (W := ((ws_.drew).alloc (.cells (nums .u8 (tfm_Write.char x)).toArray 5))) w.heap.size (by rfl) (.tmp 111) (.tmp 132) 29 5 (.int .u8 0) 1 rfl Try.underlying29 info5 rfl (by decide) (by omega) (.slice A ys.length c) ys (tfm_Write.char x) (some ⟨ws_.heap.size, 0, none⟩) 4 4 (fun _ => True) (fun _ => False) rfl rfl (Kd.R_alloc (Kd.R_drew HO.out) _) (tfm_Write.C_lit8 ws_.drew 5 (tfm_Write.char x) (by simp [tfm_Write.char])) (fun _ _ h => h) (fun _ h => h.elim) (fun _ _ => trivial) (below_alloc (below_drew1 HB.out) _) (below_size (below_alloc (below_drew1 HB.out) _)) (by have h1 := HL.out; omega) ?_
      intro v2 w2 ho hb hg hat
      rw [← HZ.out] at ho
      obtain ⟨A2, c2, e2⟩ := Kd.R_slice ho
      subst e2
      have HOW := Aside0.mk (show Kd.R (Kd.int .u8) 5 ((ws_.drew).alloc (.cells (nums .u8 (tfm_Write.char x)).toArray 5)) w.heap.size (fun _ => True) (.slice A ys.length c) ys from Kd.R_alloc (Kd.R_drew HO.out) _)
      have P2 := (hg.block g (Array.getElem?_eq_some_iff.1 BK1.out).1 (Kd.R_ne HOW.out BK1.out (by decide))).trans BK1.out
      have HP2 := Aside0.mk P2
      have hq := blk_cell P2 0
      have hfq := blk_frozen P2
      have HF2 := Aside0.mk ((hg.block gf (Array.getElem?_eq_some_iff.1 BK3.out).1 (Kd.R_ne HOW.out BK3.out (by decide))).trans BK3.out)
      have HO2 := Aside0.mk ho
      have HB2 := Aside0.mk hb
      clear P2 ho hb hg hat HB HO HOW BK1 BK2 BK3 BKg BKgc BKgf hxg hyg hxgc hygc hxgf hygf
      refine hK.out _ _ ?_
      clear hK K
      refine norm_ (a' := ?_) ?_ ?_
      rotate_left
      ·show Act.put _ (some 133) _ = _
       simp only [Act.put, List.setIfInBounds_toArray, List.set_cons_zero, List.set_cons_succ, i64_w, i32_w]
       rfl
      refine pure_ (i := 27) (N := some 134) (v := ?_) (a' := ?_) #[true, true, true, true, true, true, true, true, true, true, true, true, true, true, true, true, true, true, true, true, true, true, true, true, true, true, true, true, false, false] rfl rfl (by kernel_rfl) (fun _ _ _ h => h) (Or.inl ⟨by rfl, ?_⟩) ?_ ?_
      rotate_left
      ·intro w'
       go_simp
       with_reducible rfl
      rotate_left
      ·simp only [Act.put, List.setIfInBounds_toArray, List.set_cons_zero, List.set_cons_succ, i64_w, i32_w]
       rfl
      refine pure_ (i := 28) (N := some 135) (v := ?_) (a' := ?_) #[true, true, true, true, true, true, true, true, true, true, true, true, true, true, true, true, true, true, true, true, true, true, true, true, true, true, true, true, true, false] rfl rfl (by kernel_rfl) (fun _ _ _ h => h) (Or.inl ⟨by rfl, ?_⟩) ?_ ?_
      rotate_left
      ·intro w'
       go_simp
       with_reducible rfl
      rotate_left
      ·simp only [Act.put, List.setIfInBounds_toArray, List.set_cons_zero, List.set_cons_succ, i64_w, i32_w]
       rfl
      refine last_ (i := 29) (N := none) #[true, true, true, true, true, true, true, true, true, true, true, true, true, true, true, true, true, true, true, true, true, true, true, true, true, true, true, true, true, true] rfl rfl (by kernel_rfl) (by decide) (fun K hK => ?_)
      refine skip_ (w1 := ?_) (by rfl) rfl ?_ ?_
      rotate_left
      ·go_simp
       rfl
      refine hK.out _ _ ?_
      clear hK K
      refine done_ (by kernel_rfl) ?_
      go_wp2
      go_roundw
      case rel =>
       refine ⟨i + 1, zs, by omega, by go_num, HA, ⟨⟨.slice A2 zs.length c2, ?_, GEg.out, tfm_out_put.R_set HO2.out rfl HP2.out (by decide)⟩⟩, ⟨HB2.out.setCell (p := ⟨g, 0, none⟩) GEg.out _⟩, ⟨?_⟩⟩
       ·have := blk_put (cs' := #[.slice A2 zs.length c2]) HP2.out 0 (.slice A2 zs.length c2) rfl
        exact this
       ·exact (Below.heap_setCell w2 ⟨g, 0, none⟩ _ gf (fun e => NBgf_g.out e)).trans HF2.out
      case measure => simp [intOf]; omega
     ·obtain rfl : i = l0_3.length := by omega
      have hge : decide ((l0_3.length : Int) < (l0_3.length : Int)) = false := decide_eq_false (by omega)
      have hq := HP.out
      rw [List.drop_length, tfm_Write.cells] at hq
      obtain rfl := Option.some.inj hq
      have NBg_gf := Aside0.mk (show g ≠ gf from by obtain ⟨v, h1, _, _⟩ := H0.out; exact tfm_out_put.ne_of h1 BKgf.out (by decide))
      have NBgf_g := Aside0.mk (Ne.symm NBg_gf.out)
      clear hq HP
      go_wp2_with (first | ((with_reducible refine gate_dst (N := 145) rfl ?_); refine Kd.event_run (v := .slice (some ⟨wr.heap.size, 0, none⟩) 4 4) (w1 := wr.alloc (.cells #[.slice A0_4 l0_4.length c0_4, .slice A0_5 l0_5.length c0_5, .slice A0_6 l0_6.length c0_6, .slice A0_7 l0_7.length c0_7] 23)) rfl ?hr ?_; (case hr => first | (go_simp; done) | (go_simp; rfl))))
      obtain ⟨T, hT⟩ : ∃ T : List (Option Addr × Nat × List Int), T = [(A0_4, c0_4, l0_4), (A0_5, c0_5, l0_5), (A0_6, c0_6, l0_6), (A0_7, c0_7, l0_7)] := ⟨_, rfl⟩
      have HT := Aside0.mk (show ∀ t ∈ T, Kd.C (Kd.int .i64) w t.1 t.2.2.length t.2.2 from by
       rw [hT]
       intro t ht
       simp only [List.mem_cons, List.not_mem_nil, or_false] at ht
       rcases ht with rfl | rfl | rfl | rfl
       ·exact HR0_4.out
       ·exact HR0_5.out
       ·exact HR0_6.out
       ·exact HR0_7.out)
      have HTL := Aside0.mk (show T.length = 4 from by rw [hT]; rfl)
      have Q5' := Aside0.mk (show tfm_Write.lists k ((T.drop 0).map fun t => t.2.2) ys = some x5 from by rw [hT]; exact Q5.out)
      have hal : Below wr.heap.size wr (wr.alloc (.cells #[.slice A0_4 l0_4.length c0_4, .slice A0_5 l0_5.length c0_5, .slice A0_6 l0_6.length c0_6, .slice A0_7 l0_7.length c0_7] 23)) := below_alloc (Below.refl _ _) _
      have BKm0 : (wr.alloc (.cells #[.slice A0_4 l0_4.length c0_4, .slice A0_5 l0_5.length c0_5, .slice A0_6 l0_6.length c0_6, .slice A0_7 l0_7.length c0_7] 23)).heap[wr.heap.size]? = some (.cells (T.map fun t => Value.slice t.1 t.2.2.length t.2.1).toArray 23 (0, 0)) := by rw [hT]; exact World.alloc_heap_new wr (.cells #[.slice A0_4 l0_4.length c0_4, .slice A0_5 l0_5.length c0_5, .slice A0_6 l0_6.length c0_6, .slice A0_7 l0_7.length c0_7] 23)
      have NL : wr.heap.size ≠ g := by obtain ⟨v, h1, _, _⟩ := H0.out; have := (Array.getElem?_eq_some_iff.1 h1).1; omega
      obtain ⟨bm, hbm⟩ : ∃ bm, bm = wr.heap.size := ⟨_, rfl⟩
      rw [← hbm] at BKm0 NL
      simp only [← hbm]
      clear hbm hT Q5
      have NBbm := Aside0.mk NL
      go_loopw [11, 147] (fun _ v147 wr => ∃ (i : Nat) (ys : List Int), i ≤ 4 ∧ v147 = .int .i64 i ∧ Aside0 (tfm_Write.lists k ((T.drop i).map fun t => t.2.2) ys = some x5) ∧ Aside0 (tfm_out_put.Holds wr w.heap.size g ys) ∧ Aside0 (Below w.heap.size w wr) ∧ Aside0 (wr.heap[gf]? = some (.cells #[.int .i64 a0_0, .int .i64 a0_1, .int .i64 a0_2, .slice A0_3 l0_3.length c0_3, .slice A0_4 l0_4.length c0_4, .slice A0_5 l0_5.length c0_5, .slice A0_6 l0_6.length c0_6, .slice A0_7 l0_7.length c0_7, .slice A0_8 l0_8.length c0_8, .slice A0_9 l0_9.length c0_9, .slice A0_10 l0_10.length c0_10] 26 (0, 0))) ∧ Aside0 (wr.heap[bm]? = some (.cells (T.map fun t => Value.slice t.1 t.2.2.length t.2.1).toArray 23 (0, 0)))) (fun _ v147 _ => 4 - (intOf v147).toNat)
      case atStart => exact ⟨0, _, Nat.zero_le _, rfl, Q5', ⟨tfm_out_put.holds_below H0.out hal⟩, ⟨below_step HB.out hal⟩, ⟨blk_below BKgf.out hal⟩, ⟨BKm0⟩⟩
      case round =>
       clear H0 HB BKgf hxgf hygf Q5' hal BKm0
       obtain ⟨i, ys, hii, rfl, HP, H0, HB, BKgf, BKbm⟩ := hrel
       have hxgf := blk_cell BKgf.out
       have hygf := blk_frozen BKgf.out
       by_cases hlt : i < 4
       ·have hltz : (i : Int) < 4 := by omega
        have hlT : i < T.length := by rw [HTL.out]; exact hlt
        obtain ⟨⟨Ax, cx, lx⟩, hx⟩ : ∃ x, x = T[i] := ⟨_, rfl⟩
        have hcl : wr.cell? ⟨bm, i, none⟩ = some (.slice Ax lx.length cx) := (blk_cell BKbm.out i).trans (by simp [hlT, ← hx])
        have HCX := Aside0.mk (show Kd.C (Kd.int .i64) w Ax lx.length lx from HT.out (Ax, cx, lx) (by rw [hx]; exact List.getElem_mem hlT))
        have hq := HP.out
        rw [List.drop_eq_getElem_cons hlT, ← hx, List.map_cons, tfm_Write.lists] at hq
        obtain ⟨s, hz, hr⟩ := Option.bind_eq_some_iff.mp hq
        have HE := Aside0.mk hz
        have HR2 := Aside0.mk hr
        clear hq hz hr HP hx
        go_wp2_with (first | (go_at_call 21; (with_reducible refine (tfm_out_fixes.calls k Ax cx lx ys s g w _ HB.out H0.out HCX.out HE.out).mono ?_); rintro e w5 ⟨rfl, hh, hb, hs⟩; have z1_ := Aside0.mk (hs _ _ BKgf.out NBgf_g.out (fun _ e => by cases e)); clear BKgf hxgf hygf; have BKgf := z1_; clear z1_; have hxgf := blk_cell BKgf.out; have hygf := blk_frozen BKgf.out; have z4_ := Aside0.mk (hs _ _ BKbm.out NBbm.out (fun _ e => by cases e)); clear BKbm; have BKbm := z4_; clear z4_; have z2_ := Aside0.mk hh; have z3_ := Aside0.mk hb; clear H0 HB hh hb hs; have H0 := z2_; have HB := z3_; clear z2_ z3_))
        go_roundw
        case rel => exact ⟨i + 1, s, by omega, by go_num, HR2, H0, HB, BKgf, BKbm⟩
        case measure => simp [intOf]; omega
       ·obtain rfl : i = 4 := by omega
        have hq := HP.out
        rw [List.drop_of_length_le (by rw [HTL.out]; exact Nat.le_refl _), List.map_nil, tfm_Write.lists] at hq
        obtain rfl := Option.some.inj hq
        clear hq HP BKbm NBbm NL HT HTL
        go_wp2
        go_loopw [158] (fun v158 wr => ∃ (i : Nat) (ys : List Int), i ≤ l0_8.length ∧ v158 = .int .i64 i ∧ Aside0 (tfm_Write.cells tfm_Write.step (l0_8.drop i) ys = some x6) ∧ Aside0 (tfm_out_put.Holds wr w.heap.size g ys) ∧ Aside0 (Below w.heap.size w wr) ∧ Aside0 (wr.heap[gf]? = some (.cells #[.int .i64 a0_0, .int .i64 a0_1, .int .i64 a0_2, .slice A0_3 l0_3.length c0_3, .slice A0_4 l0_4.length c0_4, .slice A0_5 l0_5.length c0_5, .slice A0_6 l0_6.length c0_6, .slice A0_7 l0_7.length c0_7, .slice A0_8 l0_8.length c0_8, .slice A0_9 l0_9.length c0_9, .slice A0_10 l0_10.length c0_10] 26 (0, 0)))) (fun v158 _ => l0_8.length - (intOf v158).toNat)
        case atStart => exact ⟨0, _, Nat.zero_le _, rfl, Q6, H0, HB, BKgf⟩
        case round =>
         clear H0 HB BKgf hxgf hygf Q6
         obtain ⟨i, ys, hii, rfl, HP, H0, HB, BKgf⟩ := hrel
         have hxgf := blk_cell BKgf.out
         have hygf := blk_frozen BKgf.out
         by_cases hlt : i < l0_8.length
         ·have hltz : (i : Int) < (l0_8.length : Int) := by omega
          obtain ⟨ad, cc, rfl, hcl, hK, hcc⟩ := C_elem HR0_8.out i hlt
          obtain ⟨x, hx⟩ : ∃ x, x = l0_8[i] := ⟨_, rfl⟩
          rw [← hx] at hK
          obtain rfl := k51_open hK
          have hcell0 : w.cell? (ad.add (i * 4)) = some (.int .i64 x.f0) := hcc 0 _ rfl
          have hcell1 : w.cell? ⟨(ad.add (i * 4)).block, (ad.add (i * 4)).off + 1, none⟩ = some (.int .i64 x.f1) := cell_add1 (by decide) (hcc 1 _ rfl)
          have hcell2 : w.cell? ⟨(ad.add (i * 4)).block, (ad.add (i * 4)).off + 2, none⟩ = some (.int .i64 x.f2) := cell_add1 (by decide) (hcc 2 _ rfl)
          have hcell3 : w.cell? ⟨(ad.add (i * 4)).block, (ad.add (i * 4)).off + 3, none⟩ = some (.int .i64 x.f3) := cell_add1 (by decide) (hcc 3 _ rfl)
          replace hcell0 := (HB.out.cell (World.block_lt_of_cell? w _ hcell0)).trans hcell0
          replace hcell1 := (HB.out.cell (World.block_lt_of_cell? w _ hcell1)).trans hcell1
          replace hcell2 := (HB.out.cell (World.block_lt_of_cell? w _ hcell2)).trans hcell2
          replace hcell3 := (HB.out.cell (World.block_lt_of_cell? w _ hcell3)).trans hcell3
          have hq := HP.out
          rw [List.drop_eq_getElem_cons hlt, ← hx, tfm_Write.cells] at hq
          by_cases hl' : ¬ ys.length < 1000000000000
          ·rw [if_neg hl'] at hq; cases hq
          have hl := Decidable.not_not.1 hl'
          rw [if_pos hl] at hq
          clear hl'
          obtain ⟨zs, hzs⟩ : ∃ zs, zs = ys ++ tfm_Write.step x := ⟨_, rfl⟩
          rw [← hzs] at hq
          have HZ := Aside0.mk hzs
          have HL := Aside0.mk hl
          have HA := Aside0.mk hq
          obtain ⟨v, h1, h2, h3⟩ := H0.out
          obtain ⟨A, c, e⟩ := Kd.R_slice h3
          subst e
          have BKg := Aside0.mk h1
          have hxg := blk_cell h1
          have hyg := blk_frozen h1
          have GEg := Aside0.mk h2
          have HO := Aside0.mk h3
          have NBg_gf := Aside0.mk (show g ≠ gf from tfm_out_put.ne_of h1 BKgf.out (by decide))
          have NBgf_g := Aside0.mk (Ne.symm NBg_gf.out)
          clear hcl hcc hx hq hl hzs HP H0 h1 h2 h3
          go_upto_region 25 with (first | ((with_reducible refine gate_dst (N := 13) rfl ?_); refine box_event ?hg (N := 13) ?hd (cs := #[.int .i64 0, .int .i64 0, .int .i64 0, .int .i64 0]) (t := 51) ?hr ?_; (case hd => rfl); (case hg => rfl); (case hr => first | (go_simp; done) | (go_simp; rfl)); intro gc hg wc hbox hb; have z8_ := Aside0.mk (Kd.R_below HO.out hb); clear HO; have HO := z8_; clear z8_; have NBgc_gf := Aside0.mk (show gc ≠ gf from by have z_ := (Array.getElem?_eq_some_iff.1 BKgf.out).1; omega); have NBgf_gc := Aside0.mk (Ne.symm NBgc_gf.out); have NBgc_g := Aside0.mk (show gc ≠ g from by have z_ := (Array.getElem?_eq_some_iff.1 BKg.out).1; omega); have NBg_gc := Aside0.mk (Ne.symm NBgc_g.out); have GEgc := Aside0.mk (show w.heap.size ≤ gc from hg ▸ below_size (by repeat (first | (with_reducible first | exact HB.out | apply below_alloc | apply pw_below_drewN | apply below_drew1) | exact HB.out))); have n0_ := Aside0.mk (below_step (by repeat (first | (with_reducible first | exact HB.out | apply below_alloc | apply pw_below_drewN | apply below_drew1) | exact HB.out)) hb); have BKgc := Aside0.mk hbox; have hxgc := blk_cell hbox; have hygc := blk_frozen hbox; have zgf := Aside0.mk (blk_below BKgf.out hb); clear BKgf hxgf hygf; have BKgf := zgf; clear zgf; have hxgf := blk_cell BKgf.out; have hygf := blk_frozen BKgf.out; have zg := Aside0.mk (blk_below BKg.out hb); clear BKg hxg hyg; have BKg := zg; clear zg; have hxg := blk_cell BKg.out; have hyg := blk_frozen BKg.out; clear HB; have HB := n0_; clear n0_ hb hbox hg) | ((with_reducible refine gate_store (t := 51) rfl ?_); refine store_row_event (base := w.heap.size) rfl rfl 51 _ _ rfl (g := gc) (by rfl) (by rfl) BKgc.out (by kernel_rfl) (by rfl) (by rfl) GEgc.out ?_; intro ws_ hs_ hk_ hb_; have z8_ := Aside0.mk (tfm_Write.apart HO.out BKgc.out (by decide) hk_); clear HO; have HO := z8_; clear z8_; have n0_ := Aside0.mk (HB.out.trans hb_); clear HB; have HB := n0_; clear n0_; have z_ := Aside0.mk ((hk_ gf NBgf_gc.out).trans BKgf.out); clear BKgf hxgf hygf; have BKgf := z_; clear z_; have hxgf := blk_cell BKgf.out; have hygf := blk_frozen BKgf.out; have z_ := Aside0.mk ((hk_ g NBg_gc.out).trans BKg.out); clear BKg hxg hyg; have BKg := z_; clear z_; have hxg := blk_cell BKg.out; have hyg := blk_frozen BKg.out; clear BKgc hxgc hygc; have BKgc := Aside0.mk hs_; have hxgc := blk_cell BKgc.out; have hygc := blk_frozen BKgc.out; clear hs_ hk_ hb_))
          clear hcell0 hcell1 hcell2 hcell3
          refine start_ (n := 22) (S := fun w' => w'.cell? ⟨g, 0, none⟩ = some (.slice A ys.length c) ∧ w'.cell? ⟨gc, 0, none⟩ = some (.int .i64 x.f0) ∧ w'.cell? ⟨gc, 1, none⟩ = some (.int .i64 x.f1) ∧ w'.cell? ⟨gc, 2, none⟩ = some (.int .i64 x.f2) ∧ w'.cell? ⟨gc, 3, none⟩ = some (.int .i64 x.f3)) (ds := [18, 21]) #[false, false, false, false, false, false, false, false, false, false, false, false, false, false, false, false, false, false, false, false, false, false] (by kernel_rfl) rfl rfl ⟨((blk_cell BKg.out 0).trans rfl), ((blk_cell BKgc.out 0).trans rfl), ((blk_cell BKgc.out 1).trans rfl), ((blk_cell BKgc.out 2).trans rfl), ((blk_cell BKgc.out 3).trans rfl)⟩ (fun hHeld => ?_)
          refine pure_ (i := 0) (N := some 162) (v := ?_) (a' := ?_) #[true, false, false, false, false, false, false, false, false, false, false, false, false, false, false, false, false, false, false, false, false, false] rfl rfl (by kernel_rfl) (fun _ _ _ h => h) (Or.inl ⟨by rfl, ?_⟩) ?_ ?_
          rotate_left
          ·intro w'
           go_simp
           with_reducible rfl
          rotate_left
          ·simp only [Act.put, List.setIfInBounds_toArray, List.set_cons_zero, List.set_cons_succ, i64_w, i32_w]
           rfl
          refine pure_ (i := 1) (N := some 163) (v := ?_) (a' := ?_) #[true, true, false, false, false, false, false, false, false, false, false, false, false, false, false, false, false, false, false, false, false, false] rfl rfl (by kernel_rfl) (fun _ _ _ h => h) (Or.inl ⟨by rfl, ?_⟩) ?_ ?_
          rotate_left
          ·intro w'
           go_simp
           with_reducible rfl
          rotate_left
          ·simp only [Act.put, List.setIfInBounds_toArray, List.set_cons_zero, List.set_cons_succ, i64_w, i32_w]
           rfl
          refine pure_ (i := 2) (N := some 164) (v := ?_) (a' := ?_) #[true, true, true, false, false, false, false, false, false, false, false, false, false, false, false, false, false, false, false, false, false, false] rfl rfl (by kernel_rfl) (fun _ _ _ h => h) (Or.inl ⟨by rfl, ?_⟩) ?_ ?_
          rotate_left
          ·intro w'
           go_simp
           with_reducible rfl
          rotate_left
          ·simp only [Act.put, List.setIfInBounds_toArray, List.set_cons_zero, List.set_cons_succ, i64_w, i32_w]
           rfl
          refine pure_ (i := 3) (N := some 165) (v := ?_) (a' := ?_) #[true, true, true, true, false, false, false, false, false, false, false, false, false, false, false, false, false, false, false, false, false, false] rfl rfl (by kernel_rfl) (fun _ _ _ h => h) (Or.inl ⟨by rfl, ?_⟩) ?_ ?_
          rotate_left
          ·intro w'
           go_simp
           with_reducible rfl
          rotate_left
          ·simp only [Act.put, List.setIfInBounds_toArray, List.set_cons_zero, List.set_cons_succ, i64_w, i32_w]
           rfl
          refine pure_ (i := 5) (N := some 167) (v := ?_) (a' := ?_) #[true, true, true, true, false, true, false, false, false, false, false, false, false, false, false, false, false, false, false, false, false, false] rfl rfl (by kernel_rfl) (fun _ _ _ h => h) (Or.inl ⟨by rfl, ?_⟩) ?_ ?_
          rotate_left
          ·intro w'
           go_simp
           with_reducible rfl
          rotate_left
          ·simp only [Act.put, List.setIfInBounds_toArray, List.set_cons_zero, List.set_cons_succ, i64_w, i32_w]
           rfl
          refine pure_ (i := 8) (N := some 170) (v := ?_) (a' := ?_) #[true, true, true, true, false, true, false, false, true, false, false, false, false, false, false, false, false, false, false, false, false, false] rfl rfl (by kernel_rfl) (fun _ _ _ h => h) (Or.inl ⟨by rfl, ?_⟩) ?_ ?_
          rotate_left
          ·intro w'
           go_simp
           with_reducible rfl
          rotate_left
          ·simp only [Act.put, List.setIfInBounds_toArray, List.set_cons_zero, List.set_cons_succ, i64_w, i32_w]
           rfl
          refine pure_ (i := 11) (N := some 173) (v := ?_) (a' := ?_) #[true, true, true, true, false, true, false, false, true, false, false, true, false, false, false, false, false, false, false, false, false, false] rfl rfl (by kernel_rfl) (fun _ _ _ h => h) (Or.inl ⟨by rfl, ?_⟩) ?_ ?_
          rotate_left
          ·intro w'
           go_simp
           with_reducible rfl
          rotate_left
          ·simp only [Act.put, List.setIfInBounds_toArray, List.set_cons_zero, List.set_cons_succ, i64_w, i32_w]
           rfl
          refine pure_ (i := 14) (N := some 176) (v := ?_) (a' := ?_) #[true, true, true, true, false, true, false, false, true, false, false, true, false, false, true, false, false, false, false, false, false, false] rfl rfl (by kernel_rfl) (fun _ _ _ h => h) (Or.inl ⟨by rfl, ?_⟩) ?_ ?_
          rotate_left
          ·intro w'
           go_simp
           with_reducible rfl
          rotate_left
          ·simp only [Act.put, List.setIfInBounds_toArray, List.set_cons_zero, List.set_cons_succ, i64_w, i32_w]
           rfl
          refine take_ (i := 4) (N := some 166) (v := ?_) (a' := ?_) #[true, true, true, true, true, true, false, false, true, false, false, true, false, false, true, false, false, false, false, false, false, false] rfl rfl (by kernel_rfl) (fun _ _ _ h => h) (Or.inl ⟨by rfl, ?_⟩) hHeld ?_ ?_
          rotate_left
          ·rintro w' ⟨s0, s1, s2, s3, s4⟩
           go_simp
           with_reducible rfl
          rotate_left
          ·simp only [Act.put, List.setIfInBounds_toArray, List.set_cons_zero, List.set_cons_succ, i64_w, i32_w]
           rfl
          refine take_ (i := 6) (N := some 168) (v := ?_) (a' := ?_) #[true, true, true, true, true, true, true, false, true, false, false, true, false, false, true, false, false, false, false, false, false, false] rfl rfl (by kernel_rfl) (fun _ _ _ h => h) (Or.inl ⟨by rfl, ?_⟩) hHeld ?_ ?_
          rotate_left
          ·rintro w' ⟨s0, s1, s2, s3, s4⟩
           go_simp
           with_reducible rfl
          rotate_left
          ·simp only [Act.put, List.setIfInBounds_toArray, List.set_cons_zero, List.set_cons_succ, i64_w, i32_w]
           rfl
          refine pure_ (i := 7) (N := some 169) (v := ?_) (a' := ?_) #[true, true, true, true, true, true, true, true, true, false, false, true, false, false, true, false, false, false, false, false, false, false] rfl rfl (by kernel_rfl) (fun _ _ _ h => h) (Or.inl ⟨by rfl, ?_⟩) ?_ ?_
          rotate_left
          ·intro w'
           go_simp
           with_reducible rfl
          rotate_left
          ·simp only [Act.put, List.setIfInBounds_toArray, List.set_cons_zero, List.set_cons_succ, i64_w, i32_w]
           rfl
          refine take_ (i := 9) (N := some 171) (v := ?_) (a' := ?_) #[true, true, true, true, true, true, true, true, true, true, false, true, false, false, true, false, false, false, false, false, false, false] rfl rfl (by kernel_rfl) (fun _ _ _ h => h) (Or.inl ⟨by rfl, ?_⟩) hHeld ?_ ?_
          rotate_left
          ·rintro w' ⟨s0, s1, s2, s3, s4⟩
           go_simp
           with_reducible rfl
          rotate_left
          ·simp only [Act.put, List.setIfInBounds_toArray, List.set_cons_zero, List.set_cons_succ, i64_w, i32_w]
           rfl
          refine pure_ (i := 10) (N := some 172) (v := ?_) (a' := ?_) #[true, true, true, true, true, true, true, true, true, true, true, true, false, false, true, false, false, false, false, false, false, false] rfl rfl (by kernel_rfl) (fun _ _ _ h => h) (Or.inl ⟨by rfl, ?_⟩) ?_ ?_
          rotate_left
          ·intro w'
           go_simp
           with_reducible rfl
          rotate_left
          ·simp only [Act.put, List.setIfInBounds_toArray, List.set_cons_zero, List.set_cons_succ, i64_w, i32_w]
           rfl
          refine take_ (i := 12) (N := some 174) (v := ?_) (a' := ?_) #[true, true, true, true, true, true, true, true, true, true, true, true, true, false, true, false, false, false, false, false, false, false] rfl rfl (by kernel_rfl) (fun _ _ _ h => h) (Or.inl ⟨by rfl, ?_⟩) hHeld ?_ ?_
          rotate_left
          ·rintro w' ⟨s0, s1, s2, s3, s4⟩
           go_simp
           with_reducible rfl
          rotate_left
          ·simp only [Act.put, List.setIfInBounds_toArray, List.set_cons_zero, List.set_cons_succ, i64_w, i32_w]
           rfl
          refine pure_ (i := 13) (N := some 175) (v := ?_) (a' := ?_) #[true, true, true, true, true, true, true, true, true, true, true, true, true, true, true, false, false, false, false, false, false, false] rfl rfl (by kernel_rfl) (fun _ _ _ h => h) (Or.inl ⟨by rfl, ?_⟩) ?_ ?_
          rotate_left
          ·intro w'
           go_simp
           with_reducible rfl
          rotate_left
          ·simp only [Act.put, List.setIfInBounds_toArray, List.set_cons_zero, List.set_cons_succ, i64_w, i32_w]
           rfl
          refine take_ (i := 15) (N := some 177) (v := ?_) (a' := ?_) #[true, true, true, true, true, true, true, true, true, true, true, true, true, true, true, true, false, false, false, false, false, false] rfl rfl (by kernel_rfl) (fun _ _ _ h => h) (Or.inl ⟨by rfl, ?_⟩) hHeld ?_ ?_
          rotate_left
          ·rintro w' ⟨s0, s1, s2, s3, s4⟩
           go_simp
           with_reducible rfl
          rotate_left
          ·simp only [Act.put, List.setIfInBounds_toArray, List.set_cons_zero, List.set_cons_succ, i64_w, i32_w]
           rfl
          refine pure_ (i := 16) (N := some 178) (v := ?_) (a' := ?_) #[true, true, true, true, true, true, true, true, true, true, true, true, true, true, true, true, true, false, false, false, false, false] rfl rfl (by kernel_rfl) (fun _ _ _ h => h) (Or.inl ⟨by rfl, ?_⟩) ?_ ?_
          rotate_left
          ·intro w'
           go_simp
           with_reducible rfl
          rotate_left
          ·simp only [Act.put, List.setIfInBounds_toArray, List.set_cons_zero, List.set_cons_succ, i64_w, i32_w]
           rfl
          refine one_ (i := 17) (N := some 179) #[true, true, true, true, true, true, true, true, true, true, true, true, true, true, true, true, true, true, false, false, false, false] rfl rfl (by kernel_rfl) (by decide) (fun K hK => ?_)
          refine value_ (w1 := ?_) (v := ?_) (by rfl) rfl ?_ ?_
          rotate_left 2
          ·go_simp
           constructor
           ·rfl
           ·rfl
          have hal_ : Below ws_.heap.size ws_ ((ws_.drew).alloc (.cells (nums .u8 (tfm_Write.step x)).toArray 5)) := below_alloc (below_drew1 (Below.refl _ _)) _
          have BK1 := Aside0.mk (blk_below BKg.out hal_)
          have BK2 := Aside0.mk (blk_below BKgc.out hal_)
          have BK3 := Aside0.mk (blk_below BKgf.out hal_)
          clear hal_
          refine hK.out _ _ ⟨((blk_cell BK1.out 0).trans rfl), ((blk_cell BK2.out 0).trans rfl), ((blk_cell BK2.out 1).trans rfl), ((blk_cell BK2.out 2).trans rfl), ((blk_cell BK2.out 3).trans rfl)⟩ (fun hHeld => ?_)
          clear hK K
          refine norm_ (a' := ?_) ?_ ?_
          rotate_left
          ·show Act.put _ (some 179) _ = _
           simp only [Act.put, List.setIfInBounds_toArray, List.set_cons_zero, List.set_cons_succ, i64_w, i32_w]
           rfl
          refine last_ (i := 18) (N := some 180) #[true, true, true, true, true, true, true, true, true, true, true, true, true, true, true, true, true, true, true, false, false, false] rfl rfl (by kernel_rfl) (by decide) (fun K hK => ?_)
          refine Kd.R_append_rows_step (Kd.int .u8) (w0 := w) (W := ((ws_.drew).alloc (.cells (nums .u8 (tfm_Write.step x)).toArray 5))) w.heap.size (by rfl) (.tmp 166) (.tmp 179) 29 5 (.int .u8 0) 1 rfl Try.underlying29 info5 rfl (by decide) (by omega) (.slice A ys.length c) ys (tfm_Write.step x) (some ⟨ws_.heap.size, 0, none⟩) 4 4 (fun _ => True) (fun _ => False) rfl rfl (Kd.R_alloc (Kd.R_drew HO.out) _) (tfm_Write.C_lit8 ws_.drew 5 (tfm_Write.step x) (by simp [tfm_Write.step])) (fun _ _ h => h) (fun _ h => h.elim) (fun _ _ => trivial) (below_alloc (below_drew1 HB.out) _) (below_size (below_alloc (below_drew1 HB.out) _)) (by have h1 := HL.out; omega) ?_
          intro v2 w2 ho hb hg hat
          rw [← HZ.out] at ho
          obtain ⟨A2, c2, e2⟩ := Kd.R_slice ho
          subst e2
          have HOW := Aside0.mk (show Kd.R (Kd.int .u8) 5 ((ws_.drew).alloc (.cells (nums .u8 (tfm_Write.step x)).toArray 5)) w.heap.size (fun _ => True) (.slice A ys.length c) ys from Kd.R_alloc (Kd.R_drew HO.out) _)
          have P2 := (hg.block g (Array.getElem?_eq_some_iff.1 BK1.out).1 (Kd.R_ne HOW.out BK1.out (by decide))).trans BK1.out
          have HP2 := Aside0.mk P2
          have hq := blk_cell P2 0
          have hfq := blk_frozen P2
          have HF2 := Aside0.mk ((hg.block gf (Array.getElem?_eq_some_iff.1 BK3.out).1 (Kd.R_ne HOW.out BK3.out (by decide))).trans BK3.out)
          have HO2 := Aside0.mk ho
          have HB2 := Aside0.mk hb
          clear P2 ho hb hg hat HB HO HOW BK1 BK2 BK3 BKg BKgc BKgf hxg hyg hxgc hygc hxgf hygf
          refine hK.out _ _ ?_
          clear hK K
          refine norm_ (a' := ?_) ?_ ?_
          rotate_left
          ·show Act.put _ (some 180) _ = _
           simp only [Act.put, List.setIfInBounds_toArray, List.set_cons_zero, List.set_cons_succ, i64_w, i32_w]
           rfl
          refine pure_ (i := 19) (N := some 181) (v := ?_) (a' := ?_) #[true, true, true, true, true, true, true, true, true, true, true, true, true, true, true, true, true, true, true, true, false, false] rfl rfl (by kernel_rfl) (fun _ _ _ h => h) (Or.inl ⟨by rfl, ?_⟩) ?_ ?_
          rotate_left
          ·intro w'
           go_simp
           with_reducible rfl
          rotate_left
          ·simp only [Act.put, List.setIfInBounds_toArray, List.set_cons_zero, List.set_cons_succ, i64_w, i32_w]
           rfl
          refine pure_ (i := 20) (N := some 182) (v := ?_) (a' := ?_) #[true, true, true, true, true, true, true, true, true, true, true, true, true, true, true, true, true, true, true, true, true, false] rfl rfl (by kernel_rfl) (fun _ _ _ h => h) (Or.inl ⟨by rfl, ?_⟩) ?_ ?_
          rotate_left
          ·intro w'
           go_simp
           with_reducible rfl
          rotate_left
          ·simp only [Act.put, List.setIfInBounds_toArray, List.set_cons_zero, List.set_cons_succ, i64_w, i32_w]
           rfl
          refine last_ (i := 21) (N := none) #[true, true, true, true, true, true, true, true, true, true, true, true, true, true, true, true, true, true, true, true, true, true] rfl rfl (by kernel_rfl) (by decide) (fun K hK => ?_)
          refine skip_ (w1 := ?_) (by rfl) rfl ?_ ?_
          rotate_left
          ·go_simp
           rfl
          refine hK.out _ _ ?_
          clear hK K
          refine done_ (by kernel_rfl) ?_
          go_wp2
          go_roundw
          case rel =>
           refine ⟨i + 1, zs, by omega, by go_num, HA, ⟨⟨.slice A2 zs.length c2, ?_, GEg.out, tfm_out_put.R_set HO2.out rfl HP2.out (by decide)⟩⟩, ⟨HB2.out.setCell (p := ⟨g, 0, none⟩) GEg.out _⟩, ⟨?_⟩⟩
           ·have := blk_put (cs' := #[.slice A2 zs.length c2]) HP2.out 0 (.slice A2 zs.length c2) rfl
            exact this
           ·exact (Below.heap_setCell w2 ⟨g, 0, none⟩ _ gf (fun e => NBgf_g.out e)).trans HF2.out
          case measure => simp [intOf]; omega
         ·obtain rfl : i = l0_8.length := by omega
          have hge : decide ((l0_8.length : Int) < (l0_8.length : Int)) = false := decide_eq_false (by omega)
          have hq := HP.out
          rw [List.drop_length, tfm_Write.cells] at hq
          obtain rfl := Option.some.inj hq
          have NBg_gf := Aside0.mk (show g ≠ gf from by obtain ⟨v, h1, _, _⟩ := H0.out; exact tfm_out_put.ne_of h1 BKgf.out (by decide))
          have NBgf_g := Aside0.mk (Ne.symm NBg_gf.out)
          clear hq HP
          go_upto_region 29 with (first | (go_at_call 21; (with_reducible refine (tfm_out_fixes.calls k A0_9 c0_9 l0_9 _ x7 g w _ HB.out H0.out HR0_9.out Q7.out).mono ?_); rintro e w5 ⟨rfl, hh, hb, hs⟩; have z1_ := Aside0.mk (hs _ _ BKgf.out NBgf_g.out (fun _ e => by cases e)); clear BKgf hxgf hygf; have BKgf := z1_; clear z1_; have hxgf := blk_cell BKgf.out; have hygf := blk_frozen BKgf.out; have z2_ := Aside0.mk hh; have z3_ := Aside0.mk hb; clear H0 HB hh hb hs; have H0 := z2_; have HB := z3_; clear z2_ z3_) | (go_at_call 21; (with_reducible refine (tfm_out_fixes.calls k A0_10 c0_10 l0_10 _ _ g w _ HB.out H0.out HR0_10.out Q8.out).mono ?_); rintro e w5 ⟨rfl, hh, hb, hs⟩; have z1_ := Aside0.mk (hs _ _ BKgf.out NBgf_g.out (fun _ e => by cases e)); clear BKgf hxgf hygf; have BKgf := z1_; clear z1_; have hxgf := blk_cell BKgf.out; have hygf := blk_frozen BKgf.out; have z2_ := Aside0.mk hh; have z3_ := Aside0.mk hb; clear H0 HB hh hb hs; have H0 := z2_; have HB := z3_; clear z2_ z3_))
          obtain ⟨v, e1, e2, e3⟩ := H0.out
          obtain ⟨Av, cv, ev⟩ := Kd.R_slice e3
          subst ev
          have HR3 := Aside0.mk e3
          have hxo := blk_cell e1 0
          clear e1 e2 e3
          go_wp2
          go_ret2
          exact ⟨_, rfl, HR3.out, HB.out⟩


end Go.Proofs.Ytpijgpjoobffoaa.G
