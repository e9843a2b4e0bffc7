/- Contracts of the functions of this seat: what each call computes, as a plain Lean function. Made by this session's own generator. -/
import Derived.Test.YtpicbjcpdngmlaaGx0
import Derived.Test.YtpicbjcpdngmlaaGx2
namespace Go.Proofs.Ytpicbjcpdngmlaa.G
open Go.RowKit Go.Proofs.YtpicbjcpdngmlaaMy Go.Proofs.YtpicbjcpdngmlaaW.PrintWords Go.Proofs.YtpicbjcpdngmlaaW.PrintLast Go.Proofs.YtpicbjcpdngmlaaW.PrintMore
attribute [local go_sem] max2_int min2_int max_two min_two max_three min_three max_four min_four   -- for this text's walks alone
set_option linter.unusedVariables false
set_option linter.unusedSimpArgs false

/-! ### river_gaps_1: function 18 -/
-- by hand
attribute [local go_sem] Oper.semAt_some
/-- The gaps that come when these elements come (from the last one on), e being where the one behind begins. -/
def river_gaps_1.gapsOf : List (Nat × S33) → Int → List (Int × Int)
 | [], _ => []
 | x :: l, e => (if x.2.f0 = 32 then [(x.2.f1, e)] else []) ++ river_gaps_1.gapsOf l x.2.f1
def river_gaps_1.endOf : List (Nat × S33) → Int → Int
 | [], e => e
 | x :: l, _ => river_gaps_1.endOf l x.2.f1
theorem river_gaps_1.gaps_snoc (pre : List (Nat × S33)) (x : Nat × S33) : ∀ e, river_gaps_1.gapsOf (pre ++ [x]) e = river_gaps_1.gapsOf pre e ++ (if x.2.f0 = 32 then [(x.2.f1, river_gaps_1.endOf pre e)] else []) := by
 induction pre with
 | nil => intro e; simp [river_gaps_1.gapsOf, river_gaps_1.endOf]
 | cons y pre ih => intro e; rw [List.cons_append, river_gaps_1.gapsOf, ih, river_gaps_1.gapsOf, river_gaps_1.endOf, List.append_assoc]
theorem river_gaps_1.end_snoc (pre : List (Nat × S33)) (x : Nat × S33) : ∀ e, river_gaps_1.endOf (pre ++ [x]) e = x.2.f1 := by
 induction pre with
 | nil => intro e; rfl
 | cons y pre ih => intro e; rw [List.cons_append, river_gaps_1.endOf, ih]
theorem river_gaps_1.gaps_pre (pre l : List (Nat × S33)) : ∀ e, river_gaps_1.gapsOf (pre ++ l) e = river_gaps_1.gapsOf pre e ++ river_gaps_1.gapsOf l (river_gaps_1.endOf pre e) := by
 induction pre with
 | nil => intro e; rfl
 | cons y pre ih => intro e; rw [List.cons_append, river_gaps_1.gapsOf, ih, river_gaps_1.gapsOf, river_gaps_1.endOf, List.append_assoc]
theorem river_gaps_1.gaps_len (l : List (Nat × S33)) : ∀ e, (river_gaps_1.gapsOf l e).length ≤ l.length := by
 induction l with
 | nil => intro e; exact Nat.le_refl _
 | cons y l ih =>
  intro e
  rw [river_gaps_1.gapsOf, List.length_append, List.length_cons]
  have := ih y.2.f1
  split <;> simp <;> omega
def river_gaps_1.encs (g : Int × Int) : Array Value := #[.agg #[.int .i64 g.1, .int .i64 g.2]]
/-- What a round is to keep: what lay below n₀, and every block of which X does not hold. -/
def river_gaps_1.Keep (n₀ : Nat) (X : Nat → Obj → Prop) (W W' : World) : Prop := Below n₀ W W' ∧ ∀ k o, W.heap[k]? = some o → ¬ X k o → W'.heap[k]? = some o
set_option maxHeartbeats 4000000 in
set_option maxRecDepth 100000 in
theorem river_gaps_1.stops (a0_0 a0_1 a0_2 a0_3 : Int) (A0 : Option Addr) (c0 : Nat) (l0 : List S33) (X : Nat → Obj → Prop) (n B : Nat) (w W0 : World) (hW0 : Below w.heap.size w W0)
  (hB : W0.heap[B]? = some (.cells #[.int .i64 a0_0, .int .i64 a0_1, .int .i64 a0_2, .int .i64 a0_3, .slice A0 l0.length c0] 24 (0, 0))) (hr0 : Kd.C k33 w A0 l0.length l0)
  (hXB : ∀ o, ¬ X B o) (hX : ∀ k cs t, W0.heap.size ≤ k → t ≠ 36 → ¬ X k (.cells cs t (0, 0))) (hXN : ∀ k o, W0.heap.size + 2 ≤ k → o.isCells = false → ¬ X k o) :
  SeqStopsZ Fence.wide n Try.prog 18 #[.pointer (some ⟨B, 0, none⟩)] river_gaps_1.encs (river_gaps_1.Keep w.heap.size X) (fun ys => ys = river_gaps_1.gapsOf (api_Placed_1.all l0) a0_2) (fun pre => pre <+: river_gaps_1.gapsOf (api_Placed_1.all l0) a0_2) l0.length W0 (fun k X => W0.heap.size ≤ k ∧ ∃ cs, X.heap[k]? = some (.cells cs 3 (0, 0))) := by
 intro l J Jx W hW hJ hJx hJZ hJxZ hY h0
 have HR := Aside0.mk hr0
 have HBk := Aside0.mk ((hW.block B (Array.getElem?_eq_some_iff.1 hB).1).trans hB)
 have HB := Aside0.mk (hW0.trans (hW.mono hW0.size))
 have HWS := Aside0.mk hW.size
 have HWB := Aside0.mk (show B < W.heap.size from (Array.getElem?_eq_some_iff.1 HBk.out).1)
 have HY := Aside0.mk hY
 have HJ := Aside0.mk hJ
 have HJx := Aside0.mk hJx
 have HJZ := Aside0.mk hJZ
 have HJxZ := Aside0.mk hJxZ
 have H0 := Aside0.mk h0
 have HXB := Aside0.mk hXB
 have HX := Aside0.mk hX
 have HXN := Aside0.mk hXN
 have HW0S := Aside0.mk (show W0.heap.size ≤ W.heap.size from hW.size)
 have hrow := blk_cell HBk.out
 clear hr0 hB hW hW0 hY hJ hJx hJZ hJxZ h0 hXB hX hXN
 refine callsIn_of_wp_marks Try.func18 rfl trivial ?_ rfl
 simp only [Try.ntmps18, List.size_toArray, List.length_cons, List.length_nil, Nat.reduceAdd, Nat.reduceSub, Array.replicate_succ, Array.replicate_zero, List.push_toArray, List.append_toArray, List.nil_append, List.cons_append]
 refine wpIn_wide.2 ?_
 go_wp2_with (first | ((with_reducible refine gate_dst (N := 2) rfl ?_); refine box_event ?hg (N := 2) ?hd (cs := #[.func (.yield l) #[] #[]]) (t := 44) ?hr ?_; (case hd => rfl); (case hg => rfl); (case hr => first | (go_simp; done) | (go_simp; rfl)); intro gy hg wa hbox hb; have H01 := Aside0.mk (own_below HJ.out H0.out hb); clear H0; have H0 := H01; clear H01; have HGy := Aside0.mk hg; have HBk1 := Aside0.mk (blk_below HBk.out hb); clear HBk hrow; have HBk := HBk1; clear HBk1; have hrow := blk_cell HBk.out; have GEgy := Aside0.mk (show w.heap.size ≤ gy from hg ▸ below_size (by repeat (first | (with_reducible first | exact HB.out | apply below_alloc | apply pw_below_drewN | apply below_drew1) | exact HB.out))); have n0_ := Aside0.mk (below_step (by repeat (first | (with_reducible first | exact HB.out | apply below_alloc | apply pw_below_drewN | apply below_drew1) | exact HB.out)) hb); have BKgy := Aside0.mk hbox; have hxgy := blk_cell hbox; have hygy := blk_frozen hbox; clear HB; have HB := n0_; clear n0_ hb hbox hg) | ((with_reducible refine gate_dst (N := 3) rfl ?_); refine box_event ?hg (N := 3) ?hd (cs := #[.int .i64 0]) (t := 3) ?hr ?_; (case hd => rfl); (case hg => rfl); (case hr => first | (go_simp; done) | (go_simp; rfl)); intro ge hg wb hbox hb; have H01 := Aside0.mk (own_below HJ.out H0.out hb); clear H0; have H0 := H01; clear H01; have HBk1 := Aside0.mk (blk_below HBk.out hb); clear HBk hrow; have HBk := HBk1; clear HBk1; have hrow := blk_cell HBk.out; have HGE := Aside0.mk (show W.heap.size ≤ ge from by have h1 := HGy.out; have h2 := (Array.getElem?_eq_some_iff.1 BKgy.out).1; omega); have NBge_gy := Aside0.mk (show ge ≠ gy from by have z_ := (Array.getElem?_eq_some_iff.1 BKgy.out).1; omega); have NBgy_ge := Aside0.mk (Ne.symm NBge_gy.out); have GEge := Aside0.mk (show w.heap.size ≤ ge from hg ▸ below_size (by repeat (first | (with_reducible first | exact HB.out | apply below_alloc | apply pw_below_drewN | apply below_drew1) | exact HB.out))); have n0_ := Aside0.mk (below_step (by repeat (first | (with_reducible first | exact HB.out | apply below_alloc | apply pw_below_drewN | apply below_drew1) | exact HB.out)) hb); have BKge := Aside0.mk hbox; have hxge := blk_cell hbox; have hyge := blk_frozen hbox; have zgy := Aside0.mk (blk_below BKgy.out hb); clear BKgy hxgy hygy; have BKgy := zgy; clear zgy; have hxgy := blk_cell BKgy.out; have hygy := blk_frozen BKgy.out; clear HB; have HB := n0_; clear n0_ hb hbox hg) | (go_at_call 19; (with_reducible refine (api_Placed.calls A0 l0.length c0 _).mono ?_); rintro e wd ⟨rfl, rfl⟩))
 clear hxgy hygy hxge hyge hrow
 have hBe : B ≠ ge := by have h1 := HWB.out; have h2 := HGE.out; omega
 obtain ⟨wc, hwc⟩ : ∃ wc, wc = wb.setCell ⟨ge, 0, none⟩ (.int .i64 a0_2) := ⟨_, rfl⟩
 have k1 : wc.heap[ge]? = some (.cells #[.int .i64 a0_2] 3 (0, 0)) := by rw [hwc]; have := blk_put (cs' := #[.int .i64 a0_2]) BKge.out 0 (.int .i64 a0_2) rfl; exact this
 have k2 : wc.heap[gy]? = some (.cells #[.func (.yield l) #[] #[]] 44 (0, 0)) := by rw [hwc]; exact (Below.heap_setCell wb ⟨ge, 0, none⟩ _ gy NBgy_ge.out).trans BKgy.out
 have k3 : wc.heap[B]? = some (.cells #[.int .i64 a0_0, .int .i64 a0_1, .int .i64 a0_2, .int .i64 a0_3, .slice A0 l0.length c0] 24 (0, 0)) := by rw [hwc]; exact (Below.heap_setCell wb ⟨ge, 0, none⟩ _ B hBe).trans HBk.out
 have k4 : Below w.heap.size w wc := by rw [hwc]; exact HB.out.setCell (p := ⟨ge, 0, none⟩) GEge.out _
 have k5 : J [] wc := by rw [hwc]; exact HJZ.out [] wb _ ge H0.out ⟨Nat.le_trans HWS.out HGE.out, _, BKge.out⟩ (grownBy_setCell' wb ge _)
 have hsz : wc.heap.size = wb.heap.size := by rw [hwc]; simp
 rw [← hwc, ← hsz]
 clear hwc hsz BKge BKgy HBk HB H0
 obtain ⟨Bb, hBb⟩ : ∃ Bb, Bb = wc.heap.size := ⟨_, rfl⟩
 obtain ⟨W4, hW4⟩ : ∃ W4, W4 = wc.alloc (.cells #[.slice A0 l0.length c0] 22) := ⟨_, rfl⟩
 have hb4 : Below wc.heap.size wc W4 := by rw [hW4]; exact (Below.refl _ wc).alloc (Nat.le_refl _) _
 have m0 : W4.heap[Bb]? = some (.cells #[.slice A0 l0.length c0] 22 (0, 0)) := by rw [hW4, hBb]; exact World.alloc_heap_new wc _
 have M1 := Aside0.mk (blk_below k1 hb4)
 have M2 := Aside0.mk (blk_below k2 hb4)
 have M3 := Aside0.mk (blk_below k3 hb4)
 have M4 := Aside0.mk (below_step k4 hb4)
 have M5 := Aside0.mk (own_below HJ.out k5 hb4)
 have MS := Aside0.mk (show Bb < W4.heap.size ∧ ge < Bb ∧ gy < Bb ∧ B < Bb ∧ W.heap.size ≤ Bb from by
  have h1 := (Array.getElem?_eq_some_iff.1 m0).1
  have h2 := (Array.getElem?_eq_some_iff.1 k1).1
  have h3 := (Array.getElem?_eq_some_iff.1 k2).1
  have h4 := (Array.getElem?_eq_some_iff.1 k3).1
  have h5 := HGE.out
  omega)
 rw [← hW4, ← hBb]
 have M0 := Aside0.mk m0
 clear m0 hb4 k1 k2 k3 k4 k5 hW4 hBb
 refine (wpIn_wide (n := 8)).1 ?_
 refine wpIn_rangeFunc_ownH rfl (by decide) (gf := 20) (lb := #[.pointer (some ⟨Bb, 0, none⟩)]) rfl trivial (enters_of Try.func20 (by kernel_rfl) rfl)
  (api_Placed_1.stops A0 c0 l0 _ Bb w W4 M4.out M0.out HR.out) kpB_t (kpB_b M4.out.size MS.out.1) (Below.refl _ _) (fun _ => rfl)
  (fun (pre : List (api_Placed_1.It l0)) W' => (J (river_gaps_1.gapsOf (pre.map (·.1)) a0_2) W' ∧ W'.heap[ge]? = some (.cells #[.int .i64 (river_gaps_1.endOf (pre.map (·.1)) a0_2)] 3 (0, 0))) ∧ W'.heap[gy]? = some (.cells #[.func (.yield l) #[] #[]] 44 (0, 0)) ∧ W'.heap[B]? = some (.cells #[.int .i64 a0_0, .int .i64 a0_1, .int .i64 a0_2, .int .i64 a0_3, .slice A0 l0.length c0] 24 (0, 0)) ∧ W'.heap[Bb]? = some (.cells #[.slice A0 l0.length c0] 22 (0, 0)) ∧ Below w.heap.size w W')
  (fun c (pre : List (api_Placed_1.It l0)) W' => c = .ret ∧ ∃ pre0 x, pre = pre0 ++ [x] ∧ x.1.2.f0 = 32 ∧ Jx (river_gaps_1.gapsOf (pre0.map (·.1)) a0_2 ++ [(x.1.2.f1, river_gaps_1.endOf (pre0.map (·.1)) a0_2)]) W')
  ?hI ?hIx ⟨⟨M5.out, M1.out⟩, M2.out, M3.out, M0.out, M4.out⟩
  (fun (x : api_Placed_1.It l0) a' W' => ∃ gx, ge < gx ∧ W'.heap[gx]? = some (.cells #[.int .i64 x.1.2.f0, .int .i64 x.1.2.f1] 33 (0, 0)) ∧ a' = { tmps := #[.func (.yield l) #[] #[], .pointer (some ⟨B, 0, none⟩), .pointer (some ⟨gy, 0, none⟩), .pointer (some ⟨ge, 0, none⟩), .int .i64 x.1.1, .pointer (some ⟨gx, 0, none⟩), .pointer (some ⟨B, 2, none⟩), .int .i64 a0_2, .pointer (some ⟨B, 4, none⟩), .slice A0 l0.length c0, .func (.func 20) #[] #[.pointer (some ⟨Bb, 0, none⟩)], .int .i64 x.1.1, .agg #[.int .i64 x.1.2.f0, .int .i64 x.1.2.f1], undef, undef, undef, undef, undef, undef, undef, undef, undef, undef, undef, undef, undef, undef, undef, undef, undef, undef], defers := [] })
  ?hAx ?assign ?body ?done ?stop
 case hI =>
  rintro pre Y Y' row ⟨⟨i1, i2⟩, i3, i4, i6, i5⟩ hg hr
  have hc : ∀ (g : Nat) (cs : Array Value) (t : TypeId), Y.heap[g]? = some (.cells cs t (0, 0)) → Y'.heap[g]? = some (.cells cs t (0, 0)) := fun g cs t h => cells_own (β := Unit) W4.heap.size g t (fun _ => cs) () Y Y' row h hg hr
  refine ⟨⟨own_from HJ.out (by have := MS.out; omega) _ Y Y' row i1 hg hr, hc _ _ _ i2⟩, hc _ _ _ i3, hc _ _ _ i4, hc _ _ _ i6, ?_⟩
  exact ownFrom_below (β := Unit) (Nat.le_refl _) (M4.out.size) () Y Y' row i5 hg hr
 case hIx =>
  rintro c pre Y Y' row ⟨rfl, pre0, x, e1, e2, e3⟩ hg hr
  exact ⟨rfl, pre0, x, e1, e2, own_from HJx.out (by have := MS.out; omega) _ Y Y' row e3 hg hr⟩
 case hAx =>
  rintro x a' _ Y Y' row ⟨gx, x1, x2, rfl⟩ hg hr
  exact ⟨gx, x1, cells_own (β := Unit) W4.heap.size gx _ (fun _ => #[.int .i64 x.1.2.f0, .int .i64 x.1.2.f1]) () Y Y' row x2 hg hr, rfl⟩
 case assign =>
  rintro l2 pre x W1 K ⟨⟨i1, i2⟩, i3, i4, i6, i5⟩ hK
  dsimp only [api_Placed_1.encs]
  have hu := Try.underlying33
  have I1 := Aside0.mk i1
  have I2 := Aside0.mk i2
  have I3 := Aside0.mk i3
  have I4 := Aside0.mk i4
  have I5 := Aside0.mk i5
  have I6 := Aside0.mk i6
  clear i1 i2 i3 i4 i5 i6
  gi_wp2
  have hb : Below W1.heap.size W1 (W1.alloc (.cells #[.int .i64 x.1.2.f0, .int .i64 x.1.2.f1] 33)) := (Below.refl _ W1).alloc (Nat.le_refl _) _
  exact hK _ _ ((KeepsOthers.alloc _ _).from _) ⟨(Below.refl _ W1).alloc I5.out.size _, hb.block Bb (Array.getElem?_eq_some_iff.1 I6.out).1⟩ ⟨⟨own_below HJ.out I1.out hb, blk_below I2.out hb⟩, blk_below I3.out hb, blk_below I4.out hb, blk_below I6.out hb, I5.out.trans (hb.mono I5.out.size)⟩ ⟨W1.heap.size, (Array.getElem?_eq_some_iff.1 I2.out).1, World.alloc_heap_new W1 _, rfl⟩
 case body =>
  rintro l2 pre x a' W1 hl2 ⟨r2, hr2⟩ ⟨⟨i1, i2⟩, i3, i4, i6, i5⟩ ⟨gx, hgx, x1, rfl⟩ hlt
  have I1 := Aside0.mk i1
  have I2 := Aside0.mk i2
  have I3 := Aside0.mk i3
  have I4 := Aside0.mk i4
  have I5 := Aside0.mk i5
  have I6 := Aside0.mk i6
  have X1 := Aside0.mk x1
  clear i1 i2 i3 i4 i5 i6 x1
  have hFO := open_in open_wide l2
  by_cases h32 : x.1.2.f0 = 32
  ·have h32z : (x.1.2.f0 == 32) = true := by simpa using h32
   have hil : x.1.1 < l0.length := (List.getElem?_eq_some_iff.1 x.2).1
   have hilz : (x.1.1 : Int) < (l0.length : Int) := by omega
   have hxe : l0[x.1.1] = x.1.2 := (List.getElem?_eq_some_iff.1 x.2).2
   obtain ⟨ad, cc, hA0, hcl, hKc, hcc⟩ := C_elem (Kd.C_below HR.out I5.out) x.1.1 hil
   rw [hxe] at hKc
   obtain rfl := k33_open hKc
   have hcell1 : W1.cell? ⟨(ad.add (x.1.1 * 2)).block, (ad.add (x.1.1 * 2)).off + 1, none⟩ = some (.int .i64 x.1.2.f1) := cell_add1 (by decide) (hcc 1 _ rfl)
   obtain ⟨e0, he0⟩ : ∃ e0, e0 = river_gaps_1.endOf (pre.map (·.1)) a0_2 := ⟨_, rfl⟩
   obtain ⟨fn, tmps, assign, body, hy, hR⟩ := yieldAny (l2 := l2) rfl (8 - 1 - 1 - 1) (HY.out (river_gaps_1.gapsOf (pre.map (·.1)) a0_2) (x.1.2.f1, e0) W1.drew (own_below HJ.out I1.out (below_drew (Below.refl _ W1))) (Nat.lt_of_le_of_lt (river_gaps_1.gaps_len _ _) (by rw [List.length_map]; exact hlt)))
   dsimp only [river_gaps_1.encs] at hy
   subst hA0
   clear hcl hKc hcc hxe
   gi_wp2
   refine startR_ (m := 16) (S := fun w' => w'.cell? ⟨gx, 0, none⟩ = some (.int .i64 x.1.2.f0) ∧ w'.cell? ⟨gy, 0, none⟩ = some (.func (.yield l) #[] #[]) ∧ w'.cell? ⟨B, 4, none⟩ = some (.slice (some ad) l0.length c0) ∧ w'.cell? ⟨(ad.add (x.1.1 * 2)).block, (ad.add (x.1.1 * 2)).off + 1, none⟩ = some (.int .i64 x.1.2.f1) ∧ w'.cell? ⟨ge, 0, none⟩ = some (.int .i64 e0)) (ds := [13]) #[false, false, false, false, false, false, false, false, false, false, false, false, false, false, false, false] (by kernel_rfl) rfl rfl ⟨(blk_cell X1.out 0).trans rfl, (blk_cell I3.out 0).trans rfl, (blk_cell I4.out 4).trans rfl, hcell1, (blk_cell I2.out 0).trans (by rw [he0]; rfl)⟩ (fun hHeld => ?_)
   refine pureR_ (i := 0) (N := some 13) (v := ?_) (a' := ?_) #[true, false, false, false, false, false, false, false, false, false, false, false, false, false, false, false] hFO (by kernel_rfl) rfl rfl (by kernel_rfl) (fun _ _ _ h => h) (Or.inl ⟨by rfl, ?_⟩) ?_ ?_
   rotate_left
   ·intro w'
    go_simp
    with_reducible rfl
   rotate_left
   ·simp only [Act.put, List.setIfInBounds_toArray, List.set_cons_zero, List.set_cons_succ, i64_w, i32_w]
    rfl
   refine takeR_ (i := 1) (N := some 14) (v := ?_) (a' := ?_) #[true, true, false, false, false, false, false, false, false, false, false, false, false, false, false, false] hFO (by kernel_rfl) rfl rfl (by kernel_rfl) (fun _ _ _ h => h) (Or.inl ⟨by rfl, ?_⟩) hHeld ?_ ?_
   rotate_left
   ·rintro w' ⟨s0, s1, s2, s3, s4⟩
    go_simp
    with_reducible rfl
   rotate_left
   ·simp only [Act.put, List.setIfInBounds_toArray, List.set_cons_zero, List.set_cons_succ, i64_w, i32_w]
    rfl
   refine pureR_ (i := 2) (N := some 15) (v := ?_) (a' := ?_) #[true, true, true, false, false, false, false, false, false, false, false, false, false, false, false, false] hFO (by kernel_rfl) rfl rfl (by kernel_rfl) (fun _ _ _ h => h) (Or.inl ⟨by rfl, ?_⟩) ?_ ?_
   rotate_left
   ·intro w'
    go_simp
    with_reducible rfl
   rotate_left
   ·simp only [Act.put, List.setIfInBounds_toArray, List.set_cons_zero, List.set_cons_succ, i64_w, i32_w]
    rfl
   refine pureR_ (i := 3) (N := some 16) (v := ?_) (a' := ?_) #[true, true, true, true, false, false, false, false, false, false, false, false, false, false, false, false] hFO (by kernel_rfl) rfl rfl (by kernel_rfl) (fun _ _ _ h => h) (Or.inl ⟨by rfl, ?_⟩) ?_ ?_
   rotate_left
   ·intro w'
    go_simp
    with_reducible rfl
   rotate_left
   ·simp only [Act.put, List.setIfInBounds_toArray, List.set_cons_zero, List.set_cons_succ, i64_w, i32_w]
    rfl
   refine pureR_ (i := 5) (N := some 18) (v := ?_) (a' := ?_) #[true, true, true, true, false, true, false, false, false, false, false, false, false, false, false, false] hFO (by kernel_rfl) rfl rfl (by kernel_rfl) (fun _ _ _ h => h) (Or.inl ⟨by rfl, ?_⟩) ?_ ?_
   rotate_left
   ·intro w'
    go_simp
    with_reducible rfl
   rotate_left
   ·simp only [Act.put, List.setIfInBounds_toArray, List.set_cons_zero, List.set_cons_succ, i64_w, i32_w]
    rfl
   refine pureR_ (i := 7) (N := some 20) (v := ?_) (a' := ?_) #[true, true, true, true, false, true, false, true, false, false, false, false, false, false, false, false] hFO (by kernel_rfl) rfl rfl (by kernel_rfl) (fun _ _ _ h => h) (Or.inl ⟨by rfl, ?_⟩) ?_ ?_
   rotate_left
   ·intro w'
    go_simp
    with_reducible rfl
   rotate_left
   ·simp only [Act.put, List.setIfInBounds_toArray, List.set_cons_zero, List.set_cons_succ, i64_w, i32_w]
    rfl
   refine takeR_ (i := 4) (N := some 17) (v := ?_) (a' := ?_) #[true, true, true, true, true, true, false, true, false, false, false, false, false, false, false, false] hFO (by kernel_rfl) rfl rfl (by kernel_rfl) (fun _ _ _ h => h) (Or.inl ⟨by rfl, ?_⟩) hHeld ?_ ?_
   rotate_left
   ·rintro w' ⟨s0, s1, s2, s3, s4⟩
    go_simp
    with_reducible rfl
   rotate_left
   ·simp only [Act.put, List.setIfInBounds_toArray, List.set_cons_zero, List.set_cons_succ, i64_w, i32_w]
    rfl
   refine takeR_ (i := 6) (N := some 19) (v := ?_) (a' := ?_) #[true, true, true, true, true, true, true, true, false, false, false, false, false, false, false, false] hFO (by kernel_rfl) rfl rfl (by kernel_rfl) (fun _ _ _ h => h) (Or.inl ⟨by rfl, ?_⟩) hHeld ?_ ?_
   rotate_left
   ·rintro w' ⟨s0, s1, s2, s3, s4⟩
    go_simp
    with_reducible rfl
   rotate_left
   ·simp only [Act.put, List.setIfInBounds_toArray, List.set_cons_zero, List.set_cons_succ, i64_w, i32_w]
    rfl
   refine pureR_ (i := 8) (N := some 21) (v := ?_) (a' := ?_) #[true, true, true, true, true, true, true, true, true, false, false, false, false, false, false, false] hFO (by kernel_rfl) rfl rfl (by kernel_rfl) (fun _ _ _ h => h) (Or.inl ⟨by rfl, ?_⟩) ?_ ?_
   rotate_left
   ·intro w'
    go_simp
    with_reducible rfl
   rotate_left
   ·simp only [Act.put, List.setIfInBounds_toArray, List.set_cons_zero, List.set_cons_succ, i64_w, i32_w]
    rfl
   refine pureR_ (i := 9) (N := some 22) (v := ?_) (a' := ?_) #[true, true, true, true, true, true, true, true, true, true, false, false, false, false, false, false] hFO (by kernel_rfl) rfl rfl (by kernel_rfl) (fun _ _ _ h => h) (Or.inl ⟨by rfl, ?_⟩) ?_ ?_
   rotate_left
   ·intro w'
    go_simp
    with_reducible rfl
   rotate_left
   ·simp only [Act.put, List.setIfInBounds_toArray, List.set_cons_zero, List.set_cons_succ, i64_w, i32_w]
    rfl
   refine takeR_ (i := 10) (N := some 23) (v := ?_) (a' := ?_) #[true, true, true, true, true, true, true, true, true, true, true, false, false, false, false, false] hFO (by kernel_rfl) rfl rfl (by kernel_rfl) (fun _ _ _ h => h) (Or.inl ⟨by rfl, ?_⟩) hHeld ?_ ?_
   rotate_left
   ·rintro w' ⟨s0, s1, s2, s3, s4⟩
    go_simp
    with_reducible rfl
   rotate_left
   ·simp only [Act.put, List.setIfInBounds_toArray, List.set_cons_zero, List.set_cons_succ, i64_w, i32_w]
    rfl
   refine takeR_ (i := 11) (N := some 24) (v := ?_) (a' := ?_) #[true, true, true, true, true, true, true, true, true, true, true, true, false, false, false, false] hFO (by kernel_rfl) rfl rfl (by kernel_rfl) (fun _ _ _ h => h) (Or.inl ⟨by rfl, ?_⟩) hHeld ?_ ?_
   rotate_left
   ·rintro w' ⟨s0, s1, s2, s3, s4⟩
    go_simp
    with_reducible rfl
   rotate_left
   ·simp only [Act.put, List.setIfInBounds_toArray, List.set_cons_zero, List.set_cons_succ, i64_w, i32_w]
    rfl
   refine pureR_ (i := 12) (N := some 25) (v := ?_) (a' := ?_) #[true, true, true, true, true, true, true, true, true, true, true, true, true, false, false, false] hFO (by kernel_rfl) rfl rfl (by kernel_rfl) (fun _ _ _ h => h) (Or.inl ⟨by rfl, ?_⟩) ?_ ?_
   rotate_left
   ·intro w'
    go_simp
    with_reducible rfl
   rotate_left
   ·simp only [Act.put, List.setIfInBounds_toArray, List.set_cons_zero, List.set_cons_succ, i64_w, i32_w]
    rfl
   refine lastR_ (i := 13) (N := some 26) #[true, true, true, true, true, true, true, true, true, true, true, true, true, true, false, false] hFO rfl rfl (by kernel_rfl) (by decide) ?_
   rw [if_pos (by rfl)]
   unfold Oper.wpIn
   refine ⟨fun f _ => hFO.fn f, ?_⟩
   go_simp
   rw [← he0, hy]
   refine ⟨hFO.deep, hR.mono ?_⟩
   rintro e W3 (⟨rfl, hJ3, hk3⟩ | ⟨rfl, hJx3, hk3⟩)
   ·refine normR_ (a' := ?_) ?_ ?_
    rotate_left
    ·simp only [Act.put, List.setIfInBounds_toArray, List.set_cons_zero, List.set_cons_succ, i64_w, i32_w]
     rfl
    refine pureR_ (i := 14) (N := some 27) (v := ?_) (a' := ?_) #[true, true, true, true, true, true, true, true, true, true, true, true, true, true, true, false] hFO (by kernel_rfl) rfl rfl (by kernel_rfl) (fun _ _ _ h => h) (Or.inl ⟨by rfl, ?_⟩) ?_ ?_
    rotate_left
    ·intro w'
     go_simp
     with_reducible rfl
    rotate_left
    ·simp only [Act.put, List.setIfInBounds_toArray, List.set_cons_zero, List.set_cons_succ, i64_w, i32_w]
     rfl
    refine pureR_ (i := 15) (N := some 28) (v := ?_) (a' := ?_) #[true, true, true, true, true, true, true, true, true, true, true, true, true, true, true, true] hFO (by kernel_rfl) rfl rfl (by kernel_rfl) (fun _ _ _ h => h) (Or.inl ⟨by rfl, ?_⟩) ?_ ?_
    rotate_left
    ·intro w'
     go_simp
     with_reducible rfl
    rotate_left
    ·simp only [Act.put, List.setIfInBounds_toArray, List.set_cons_zero, List.set_cons_succ, i64_w, i32_w]
     rfl
    refine doneR_ (by kernel_rfl) ?_ _
    have hd : Below W1.heap.size W1 W1.drew := below_drew (Below.refl _ W1)
    have hms := MS.out
    have hge5 := HGE.out
    have hgy5 := HGy.out
    have hng5 := NBge_gy.out
    have hws5 := HW0S.out
    have KF : KeepsFrom W4.heap.size W1 W3 := ((KeepsOthers.drew W1).from _).trans ⟨hk3.1.size, fun k o hB h ho => hk3.2 k o h (HXN.out k o (by omega) ho)⟩
    have keep : ∀ (g : Nat) (cs : Array Value) (t : TypeId), W1.heap[g]? = some (.cells cs t (0, 0)) → ¬ X g (.cells cs t (0, 0)) → W3.heap[g]? = some (.cells cs t (0, 0)) := fun g cs t h hn => hk3.2 g _ (blk_below h hd) hn
    have y1 := keep ge _ _ I2.out (HX.out _ _ _ (by omega) (by decide))
    have y2 := keep gx _ _ X1.out (HX.out _ _ _ (by omega) (by decide))
    have y3 := keep gy _ _ I3.out (HX.out _ _ _ (by omega) (by decide))
    have y4 := keep B _ _ I4.out (HXB.out _)
    have y6 := keep Bb _ _ I6.out (HX.out _ _ _ (by omega) (by decide))
    have hx := blk_cell y2
    have hxe := blk_cell y1 0
    have hfe := blk_frozen y1
    have Y1 := Aside0.mk y1
    have Y3 := Aside0.mk y3
    have Y4 := Aside0.mk y4
    have Y6 := Aside0.mk y6
    have HK3 := Aside0.mk hk3
    have HJ3 := Aside0.mk hJ3
    have HKF := Aside0.mk KF
    clear y1 y2 y3 y4 y6 hk3 hJ3 KF keep hR hy hd hms hge5 hgy5 hng5 hws5 hHeld
    gi_wp2
    show KeepsFrom _ _ _ ∧ _ ∧ _
    have hms := MS.out
    have hge5 := HGE.out
    have hws5 := HW0S.out
    have e1 : (W3.setCell ⟨ge, 0, none⟩ (.int .i64 x.1.2.f1)).heap[ge]? = some (.cells #[.int .i64 x.1.2.f1] 3 (0, 0)) := by have := blk_put (cs' := #[.int .i64 x.1.2.f1]) Y1.out 0 (.int .i64 x.1.2.f1) rfl; exact this
    have ne : ∀ g, g ≠ ge → (W3.setCell ⟨ge, 0, none⟩ (.int .i64 x.1.2.f1)).heap[g]? = W3.heap[g]? := fun g h => Below.heap_setCell W3 ⟨ge, 0, none⟩ _ g h
    have j1 : J (river_gaps_1.gapsOf ((pre ++ [x]).map (·.1)) a0_2) (W3.setCell ⟨ge, 0, none⟩ (.int .i64 x.1.2.f1)) := by
     rw [List.map_append, List.map_cons, List.map_nil, river_gaps_1.gaps_snoc, if_pos h32, ← he0]
     exact HJZ.out _ W3 _ ge HJ3.out ⟨by omega, _, Y1.out⟩ (grownBy_setCell' W3 ge _)
    have bw : Below w.heap.size W1 (W3.setCell ⟨ge, 0, none⟩ (.int .i64 x.1.2.f1)) := ((below_drew (Below.refl _ W1)).trans HK3.out.1).setCell (p := ⟨ge, 0, none⟩) GEge.out _
    refine ⟨HKF.out.trans ((KeepsOthers.setCell _ _ _).from _), ⟨bw, (ne Bb (by omega)).trans (Y6.out.trans I6.out.symm)⟩, ⟨⟨j1, ?_⟩, (ne gy NBgy_ge.out).trans Y3.out, (ne B (by have := HWB.out; omega)).trans Y4.out, (ne Bb (by omega)).trans Y6.out, I5.out.trans bw⟩⟩
    rw [List.map_append, List.map_cons, List.map_nil, river_gaps_1.end_snoc]
    exact e1
   ·refine normR_ (a' := ?_) ?_ ?_
    rotate_left
    ·simp only [Act.put, List.setIfInBounds_toArray, List.set_cons_zero, List.set_cons_succ, i64_w, i32_w]
     rfl
    refine pureR_ (i := 14) (N := some 27) (v := ?_) (a' := ?_) #[true, true, true, true, true, true, true, true, true, true, true, true, true, true, true, false] hFO (by kernel_rfl) rfl rfl (by kernel_rfl) (fun _ _ _ h => h) (Or.inl ⟨by rfl, ?_⟩) ?_ ?_
    rotate_left
    ·intro w'
     go_simp
     with_reducible rfl
    rotate_left
    ·simp only [Act.put, List.setIfInBounds_toArray, List.set_cons_zero, List.set_cons_succ, i64_w, i32_w]
     rfl
    refine pureR_ (i := 15) (N := some 28) (v := ?_) (a' := ?_) #[true, true, true, true, true, true, true, true, true, true, true, true, true, true, true, true] hFO (by kernel_rfl) rfl rfl (by kernel_rfl) (fun _ _ _ h => h) (Or.inl ⟨by rfl, ?_⟩) ?_ ?_
    rotate_left
    ·intro w'
     go_simp
     with_reducible rfl
    rotate_left
    ·simp only [Act.put, List.setIfInBounds_toArray, List.set_cons_zero, List.set_cons_succ, i64_w, i32_w]
     rfl
    refine doneR_ (by kernel_rfl) ?_ _
    have hd : Below W1.heap.size W1 W1.drew := below_drew (Below.refl _ W1)
    have hms := MS.out
    have hge5 := HGE.out
    have hgy5 := HGy.out
    have hng5 := NBge_gy.out
    have hws5 := HW0S.out
    have KF : KeepsFrom W4.heap.size W1 W3 := ((KeepsOthers.drew W1).from _).trans ⟨hk3.1.size, fun k o hB h ho => hk3.2 k o h (HXN.out k o (by omega) ho)⟩
    have HKF := Aside0.mk KF
    have HJ3 := Aside0.mk hJx3
    clear hk3 hJx3 KF hR hy hd hms hge5 hgy5 hng5 hws5 hHeld
    gi_wp2
    show KeepsFrom _ _ _ ∧ _
    exact ⟨HKF.out, rfl, pre, x, rfl, h32, by rw [← he0]; exact HJ3.out⟩
  ·have h32z : (x.1.2.f0 == 32) = false := by simpa using h32
   gi_wp2
   refine startR_ (m := 16) (S := fun w' => w'.cell? ⟨gx, 0, none⟩ = some (.int .i64 x.1.2.f0)) (ds := []) #[false, false, false, false, false, false, false, false, false, false, false, false, false, false, false, false] (by kernel_rfl) rfl rfl ((blk_cell X1.out 0).trans rfl) (fun hHeld => ?_)
   refine pureR_ (i := 0) (N := some 13) (v := ?_) (a' := ?_) #[true, false, false, false, false, false, false, false, false, false, false, false, false, false, false, false] hFO (by kernel_rfl) rfl rfl (by kernel_rfl) (fun _ _ _ h => h) (Or.inl ⟨by rfl, ?_⟩) ?_ ?_
   rotate_left
   ·intro w'
    go_simp
    with_reducible rfl
   rotate_left
   ·simp only [Act.put, List.setIfInBounds_toArray, List.set_cons_zero, List.set_cons_succ, i64_w, i32_w]
    rfl
   refine takeR_ (i := 1) (N := some 14) (v := ?_) (a' := ?_) #[true, true, false, false, false, false, false, false, false, false, false, false, false, false, false, false] hFO (by kernel_rfl) rfl rfl (by kernel_rfl) (fun _ _ _ h => h) (Or.inl ⟨by rfl, ?_⟩) hHeld ?_ ?_
   rotate_left
   ·intro w' s0
    go_simp
    with_reducible rfl
   rotate_left
   ·simp only [Act.put, List.setIfInBounds_toArray, List.set_cons_zero, List.set_cons_succ, i64_w, i32_w]
    rfl
   refine pureR_ (i := 2) (N := some 15) (v := ?_) (a' := ?_) #[true, true, true, false, false, false, false, false, false, false, false, false, false, false, false, false] hFO (by kernel_rfl) rfl rfl (by kernel_rfl) (fun _ _ _ h => h) (Or.inl ⟨by rfl, ?_⟩) ?_ ?_
   rotate_left
   ·intro w'
    go_simp
    with_reducible rfl
   rotate_left
   ·simp only [Act.put, List.setIfInBounds_toArray, List.set_cons_zero, List.set_cons_succ, i64_w, i32_w]
    rfl
   refine pureR_ (i := 3) (N := some 16) (v := ?_) (a' := ?_) #[true, true, true, true, false, false, false, false, false, false, false, false, false, false, false, false] hFO (by kernel_rfl) rfl rfl (by kernel_rfl) (fun _ _ _ h => h) (Or.inl ⟨by rfl, ?_⟩) ?_ ?_
   rotate_left
   ·intro w'
    go_simp
    with_reducible rfl
   rotate_left
   ·simp only [Act.put, List.setIfInBounds_toArray, List.set_cons_zero, List.set_cons_succ, i64_w, i32_w]
    rfl
   refine pureR_ (i := 4) (N := some 17) (v := undef) (a' := ?_) #[true, true, true, true, true, false, false, false, false, false, false, false, false, false, false, false] hFO (by kernel_rfl) rfl rfl (by kernel_rfl) (fun _ _ _ h => h) (Or.inr ⟨by rfl, rfl⟩) ?_ ?_
   rotate_left
   ·simp only [Act.put, List.setIfInBounds_toArray, List.set_cons_zero, List.set_cons_succ, i64_w, i32_w]
    rfl
   refine pureR_ (i := 5) (N := some 18) (v := undef) (a' := ?_) #[true, true, true, true, true, true, false, false, false, false, false, false, false, false, false, false] hFO (by kernel_rfl) rfl rfl (by kernel_rfl) (fun _ _ _ h => h) (Or.inr ⟨by rfl, rfl⟩) ?_ ?_
   rotate_left
   ·simp only [Act.put, List.setIfInBounds_toArray, List.set_cons_zero, List.set_cons_succ, i64_w, i32_w]
    rfl
   refine pureR_ (i := 6) (N := some 19) (v := undef) (a' := ?_) #[true, true, true, true, true, true, true, false, false, false, false, false, false, false, false, false] hFO (by kernel_rfl) rfl rfl (by kernel_rfl) (fun _ _ _ h => h) (Or.inr ⟨by rfl, rfl⟩) ?_ ?_
   rotate_left
   ·simp only [Act.put, List.setIfInBounds_toArray, List.set_cons_zero, List.set_cons_succ, i64_w, i32_w]
    rfl
   refine pureR_ (i := 7) (N := some 20) (v := undef) (a' := ?_) #[true, true, true, true, true, true, true, true, false, false, false, false, false, false, false, false] hFO (by kernel_rfl) rfl rfl (by kernel_rfl) (fun _ _ _ h => h) (Or.inr ⟨by rfl, rfl⟩) ?_ ?_
   rotate_left
   ·simp only [Act.put, List.setIfInBounds_toArray, List.set_cons_zero, List.set_cons_succ, i64_w, i32_w]
    rfl
   refine pureR_ (i := 8) (N := some 21) (v := undef) (a' := ?_) #[true, true, true, true, true, true, true, true, true, false, false, false, false, false, false, false] hFO (by kernel_rfl) rfl rfl (by kernel_rfl) (fun _ _ _ h => h) (Or.inr ⟨by rfl, rfl⟩) ?_ ?_
   rotate_left
   ·simp only [Act.put, List.setIfInBounds_toArray, List.set_cons_zero, List.set_cons_succ, i64_w, i32_w]
    rfl
   refine pureR_ (i := 9) (N := some 22) (v := undef) (a' := ?_) #[true, true, true, true, true, true, true, true, true, true, false, false, false, false, false, false] hFO (by kernel_rfl) rfl rfl (by kernel_rfl) (fun _ _ _ h => h) (Or.inr ⟨by rfl, rfl⟩) ?_ ?_
   rotate_left
   ·simp only [Act.put, List.setIfInBounds_toArray, List.set_cons_zero, List.set_cons_succ, i64_w, i32_w]
    rfl
   refine pureR_ (i := 10) (N := some 23) (v := undef) (a' := ?_) #[true, true, true, true, true, true, true, true, true, true, true, false, false, false, false, false] hFO (by kernel_rfl) rfl rfl (by kernel_rfl) (fun _ _ _ h => h) (Or.inr ⟨by rfl, rfl⟩) ?_ ?_
   rotate_left
   ·simp only [Act.put, List.setIfInBounds_toArray, List.set_cons_zero, List.set_cons_succ, i64_w, i32_w]
    rfl
   refine pureR_ (i := 11) (N := some 24) (v := undef) (a' := ?_) #[true, true, true, true, true, true, true, true, true, true, true, true, false, false, false, false] hFO (by kernel_rfl) rfl rfl (by kernel_rfl) (fun _ _ _ h => h) (Or.inr ⟨by rfl, rfl⟩) ?_ ?_
   rotate_left
   ·simp only [Act.put, List.setIfInBounds_toArray, List.set_cons_zero, List.set_cons_succ, i64_w, i32_w]
    rfl
   refine pureR_ (i := 12) (N := some 25) (v := undef) (a' := ?_) #[true, true, true, true, true, true, true, true, true, true, true, true, true, false, false, false] hFO (by kernel_rfl) rfl rfl (by kernel_rfl) (fun _ _ _ h => h) (Or.inr ⟨by rfl, rfl⟩) ?_ ?_
   rotate_left
   ·simp only [Act.put, List.setIfInBounds_toArray, List.set_cons_zero, List.set_cons_succ, i64_w, i32_w]
    rfl
   refine pureR_ (i := 13) (N := some 26) (v := undef) (a' := ?_) #[true, true, true, true, true, true, true, true, true, true, true, true, true, true, false, false] hFO (by kernel_rfl) rfl rfl (by kernel_rfl) (fun _ _ _ h => h) (Or.inr ⟨by rfl, rfl⟩) ?_ ?_
   rotate_left
   ·simp only [Act.put, List.setIfInBounds_toArray, List.set_cons_zero, List.set_cons_succ, i64_w, i32_w]
    rfl
   refine pureR_ (i := 14) (N := some 27) (v := undef) (a' := ?_) #[true, true, true, true, true, true, true, true, true, true, true, true, true, true, true, false] hFO (by kernel_rfl) rfl rfl (by kernel_rfl) (fun _ _ _ h => h) (Or.inr ⟨by rfl, rfl⟩) ?_ ?_
   rotate_left
   ·simp only [Act.put, List.setIfInBounds_toArray, List.set_cons_zero, List.set_cons_succ, i64_w, i32_w]
    rfl
   refine pureR_ (i := 15) (N := some 28) (v := ?_) (a' := ?_) #[true, true, true, true, true, true, true, true, true, true, true, true, true, true, true, true] hFO (by kernel_rfl) rfl rfl (by kernel_rfl) (fun _ _ _ h => h) (Or.inl ⟨by rfl, ?_⟩) ?_ ?_
   rotate_left
   ·intro w'
    go_simp
    with_reducible rfl
   rotate_left
   ·simp only [Act.put, List.setIfInBounds_toArray, List.set_cons_zero, List.set_cons_succ, i64_w, i32_w]
    rfl
   refine doneR_ (by kernel_rfl) ?_ _
   have hx := blk_cell X1.out
   have hxe := blk_cell I2.out 0
   have hfe := blk_frozen I2.out
   gi_wp2
   show KeepsFrom _ _ _ ∧ _ ∧ _
   have hd : Below W1.heap.size W1 W1.drew := below_drew (Below.refl _ W1)
   have hms := MS.out
   have hge5 := HGE.out
   have hws5 := HWS.out
   have e1 : (W1.drew.setCell ⟨ge, 0, none⟩ (.int .i64 x.1.2.f1)).heap[ge]? = some (.cells #[.int .i64 x.1.2.f1] 3 (0, 0)) := by have := blk_put (cs' := #[.int .i64 x.1.2.f1]) (blk_below I2.out hd) 0 (.int .i64 x.1.2.f1) rfl; exact this
   have ne : ∀ g, g ≠ ge → (W1.drew.setCell ⟨ge, 0, none⟩ (.int .i64 x.1.2.f1)).heap[g]? = W1.heap[g]? := fun g h => Below.heap_setCell W1.drew ⟨ge, 0, none⟩ _ g h
   have j1 : J (river_gaps_1.gapsOf ((pre ++ [x]).map (·.1)) a0_2) (W1.drew.setCell ⟨ge, 0, none⟩ (.int .i64 x.1.2.f1)) := by
    rw [List.map_append, List.map_cons, List.map_nil, river_gaps_1.gaps_snoc, if_neg h32, List.append_nil]
    exact HJZ.out _ W1.drew _ ge (own_below HJ.out I1.out hd) ⟨Nat.le_trans hws5 hge5, _, blk_below I2.out hd⟩ (grownBy_setCell' W1.drew ge _)
   have bw : Below w.heap.size W1 (W1.drew.setCell ⟨ge, 0, none⟩ (.int .i64 x.1.2.f1)) := (hd.mono I5.out.size).setCell (p := ⟨ge, 0, none⟩) GEge.out _
   refine ⟨((KeepsOthers.drew W1).trans (KeepsOthers.setCell _ _ _)).from _, ⟨bw, ne Bb (by omega)⟩, ⟨⟨j1, ?_⟩, (ne gy NBgy_ge.out).trans I3.out, (ne B (by have := HWB.out; omega)).trans I4.out, (ne Bb (by omega)).trans I6.out, I5.out.trans bw⟩⟩
   rw [List.map_append, List.map_cons, List.map_nil, river_gaps_1.end_snoc]
   exact e1
 case done =>
  rintro D xs W5 hD hS ⟨⟨j1, _⟩, _, _, _, _⟩ hK
  rw [hS] at j1
  have hJK := Aside0.mk (own_from HJ.out (B' := W4.heap.size) (by have := MS.out; omega) _ W5 (W5.putObj D (.deferred none)) (some D) j1 (grownBy_putObj' W5 D (.deferred none)) (fun r e => by cases e; exact ⟨hD, _, hK, rfl⟩))
  have HK := Aside0.mk hK
  clear hK j1
  gi_wp2
  refine ⟨by simp, .inl ⟨_, _, rfl, run_takeDeferred HK.out, ?_⟩⟩
  exact ⟨_, results_none rfl _ _ _, ⟨_, rfl⟩, .inl ⟨_, rfl, hJK.out⟩⟩
 case stop =>
  rintro D c pre W5 hD hpre ⟨rfl, pre0, x, rfl, h32, j1⟩ hK
  have hJK := Aside0.mk (own_from HJx.out (B' := W4.heap.size) (by have := MS.out; omega) _ W5 (W5.putObj D (.deferred none)) (some D) j1 (grownBy_putObj' W5 D (.deferred none)) (fun r e => by cases e; exact ⟨hD, _, hK, rfl⟩))
  have HK := Aside0.mk hK
  have HPX := Aside0.mk (show river_gaps_1.gapsOf (pre0.map (·.1)) a0_2 ++ [(x.1.2.f1, river_gaps_1.endOf (pre0.map (·.1)) a0_2)] <+: river_gaps_1.gapsOf (api_Placed_1.all l0) a0_2 from by
   obtain ⟨rest, hrest⟩ := hpre
   rw [← hrest, List.map_append, List.map_cons, List.map_nil, river_gaps_1.gaps_pre, river_gaps_1.gaps_snoc, if_pos h32]
   exact List.prefix_append _ _)
  clear hK j1
  gi_wp2
  refine ⟨by simp, .inl ⟨_, _, rfl, run_takeDeferred HK.out, ?_⟩⟩
  exact ⟨_, results_none rfl _ _ _, ⟨_, rfl⟩, .inr ⟨_, HPX.out, hJK.out⟩⟩


end Go.Proofs.Ytpicbjcpdngmlaa.G
