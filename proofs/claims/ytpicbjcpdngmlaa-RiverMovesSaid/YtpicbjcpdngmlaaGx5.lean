/- Contracts of the functions of this seat: what each call computes, as a plain Lean function. Made by this session's own generator. -/
import Derived.Test.YtpicbjcpdngmlaaGx0
import Derived.Test.YtpicbjcpdngmlaaGx2
import Derived.Test.YtpicbjcpdngmlaaGx3
import Derived.Test.YtpicbjcpdngmlaaGx4
namespace Go.Proofs.Ytpicbjcpdngmlaa.G
open Go.RowKit Go.Proofs.YtpicbjcpdngmlaaMy Go.Proofs.YtpicbjcpdngmlaaW.PrintWords Go.Proofs.YtpicbjcpdngmlaaW.PrintLast Go.Proofs.YtpicbjcpdngmlaaW.PrintMore
attribute [local go_sem] max2_int min2_int max_two min_two max_three min_three max_four min_four   -- for this text's walks alone
set_option linter.unusedVariables false
set_option linter.unusedSimpArgs false

/-! ### river_Gaps: function 10 -/
-- by hand
def river_Gaps.f (k : Nat) (a0_0 : Int) (a0_1 : Int) (a0_2 : Int) (a0_3 : Int) (l0_4 : List S33) : Option (List S36) :=
 if l0_4.length < 1000000000000 then slices_Reverse_2_int_2_int.f k ((river_gaps_1.gapsOf (api_Placed_1.all l0_4) a0_2).map slices_AppendSeq_2_int_2_int.mk2) else none
theorem river_Gaps.mono : ∀ a0_0 a0_1 a0_2 a0_3 l0_4 k, LeO (river_Gaps.f k a0_0 a0_1 a0_2 a0_3 l0_4) (river_Gaps.f (k + 1) a0_0 a0_1 a0_2 a0_3 l0_4) := by
 intro a0_0 a0_1 a0_2 a0_3 l0_4 k
 unfold river_Gaps.f
 exact LeO.ite (slices_Reverse_2_int_2_int.mono _ _) (LeO.none _)
set_option maxHeartbeats 4000000 in
set_option maxRecDepth 100000 in
theorem river_Gaps.calls (k : Nat) (a0_0 : Int) (a0_1 : Int) (a0_2 : Int) (a0_3 : Int) (A0_4 : Option Addr) (c0_4 : Nat) (l0_4 : List S33) (r : List S36) (w : World) (hr0_4 : Kd.C k33 w A0_4 l0_4.length l0_4) (hc0_4 : l0_4.length ≤ c0_4) (h : river_Gaps.f k a0_0 a0_1 a0_2 a0_3 l0_4 = some r) :
  Calls Try.prog 10 #[.agg #[.int .i64 a0_0, .int .i64 a0_1, .int .i64 a0_2, .int .i64 a0_3, .slice A0_4 l0_4.length c0_4]] w fun e w' => ∃ v0_ : Value, e = .returned (v0_) ∧ Kd.R k36 36 w' w.heap.size (fun _ => True) v0_ r ∧ Below w.heap.size w w' := by
 unfold river_Gaps.f at h
 split at h
 case isFalse => cases h
 rename_i hl
 have hu := Try.underlying24
 have HR := Aside0.mk hr0_4
 have HL := Aside0.mk hl
 have HH := Aside0.mk h
 have HB := Aside0.mk (Below.refl w.heap.size w)
 clear hr0_4 hc0_4 hl h
 go_enter Try.func10, Try.ntmps10
 go_wp2_with (first | ((with_reducible refine gate_dst (N := 1) rfl ?_); refine box_event ?hg (N := 1) ?hd (cs := #[.int .i64 a0_0, .int .i64 a0_1, .int .i64 a0_2, .int .i64 a0_3, .slice A0_4 l0_4.length c0_4]) (t := 24) ?hr ?_; (case hd => rfl); (case hg => rfl); (case hr => first | (go_simp; done) | (go_simp; rfl)); intro gr hg wa hbox hb; have GEgr := Aside0.mk (show w.heap.size ≤ gr from hg ▸ below_size (by repeat (first | (with_reducible first | exact HB.out | apply below_alloc | apply pw_below_drewN | apply below_drew1) | exact HB.out))); have n0_ := Aside0.mk (below_step (by repeat (first | (with_reducible first | exact HB.out | apply below_alloc | apply pw_below_drewN | apply below_drew1) | exact HB.out)) hb); have BKgr := Aside0.mk hbox; have hxgr := blk_cell hbox; have hygr := blk_frozen hbox; clear HB; have HB := n0_; clear n0_ hb hbox hg) | ((with_reducible refine gate_dst (N := 4) rfl ?_); refine load_row_event (by first | rfl | (go_simp; done)) 24 _ rfl gr rfl 24 _ (0, 0) _ BKgr.out hu rfl (by kernel_rfl) ?_) | (go_at_call 15; (with_reducible refine (river_gaps.calls a0_0 a0_1 a0_2 a0_3 A0_4 l0_4.length c0_4 _).mono ?_); rintro e wb ⟨rfl, hwb⟩; have HWb := Aside0.mk hwb; clear hwb) | (go_at_call 14; (with_reducible refine (slices_Collect_2_int.calls a0_0 a0_1 a0_2 a0_3 A0_4 c0_4 l0_4 wa.heap.size wb (by rw [HWb.out]; exact World.alloc_heap_new wa _) (by rw [HWb.out]; exact Kd.C_alloc (Kd.C_below HR.out HB.out) _) HL.out).mono ?_); rintro e wc ⟨v, rfl, hr, hb⟩; obtain ⟨Av, cv, ev⟩ := Kd.R_slice hr; subst ev; rw [List.length_map] at hr; have HRv := Aside0.mk (Kd.R_lower hr (by rw [HWb.out]; exact below_size (below_alloc HB.out _))); have HBc := Aside0.mk (show Below w.heap.size w wc from below_step (by rw [HWb.out]; exact below_alloc HB.out _) hb); clear hr hb) | (go_at_call 16; (with_reducible refine (slices_Reverse_2_int_2_int.calls k (fun _ => True) _ _ r w wc HBc.out HRv.out HH.out).mono ?_); rintro e wd ⟨rfl, hr, hb, hk⟩; have HRr := Aside0.mk hr; have HBd := Aside0.mk hb; clear hr hb hk))
 go_ret
 exact ⟨_, rfl, Kd.R_mono HRr.out (fun _ _ => trivial), HBd.out⟩

/-! ### river_Count: function 12 -/
-- by hand
attribute [local go_sem] Oper.semAt_some
attribute [local go_sem] max2_int min2_int max_two min_two
def river_Count.one (x : Int × Int) (n : Int) (y : Int × Int) : Int := if max x.1 y.1 < min x.2 y.2 then wrap64 (n + 1) else n
def river_Count.all (xs ys : List (Int × Int)) : Int := xs.foldl (fun n x => ys.foldl (river_Count.one x) n) 0
def river_Count.f (_a0_0 : Int) (_a0_1 : Int) (a0_2 : Int) (_a0_3 : Int) (l0_4 : List S33) (_a1_0 : Int) (_a1_1 : Int) (a1_2 : Int) (_a1_3 : Int) (l1_4 : List S33) : Option Int :=
 some (river_Count.all (river_gaps_1.gapsOf (api_Placed_1.all l0_4) a0_2) (river_gaps_1.gapsOf (api_Placed_1.all l1_4) a1_2))
theorem river_Count.stops_in {α : Type} {F : Fence} {n : Nat} {P : Program} {g : Nat} {lb : Array Value} {encs : α → Array Value} {Kp : World → World → Prop} {S Sp : List α → Prop} {N : Nat} {w : World} {Z : Nat → World → Prop} (l : Nat) (h : SeqStopsZ F n P g lb encs Kp S Sp N w Z) : SeqStopsZ (F.inRound l) n P g lb encs Kp S Sp N w Z := h
abbrev river_Count.X (gn L : Nat) (k : Nat) (o : Obj) : Prop := k = gn ∨ (k = L ∧ o.isCells = false)
/-- All that lay in W1 lies, block gn apart. -/
def river_Count.Stay (gn : Nat) (W1 W : World) : Prop := W1.heap.size ≤ W.heap.size ∧ ∀ k o, W1.heap[k]? = some o → k ≠ gn → W.heap[k]? = some o
theorem river_Count.stay_grown {gn : Nat} {W1 X Y : World} {row : Option Nat} (h : river_Count.Stay gn W1 X) (hg : X.grownBy Y row) (hr : ∀ r, row = some r → W1.heap.size ≤ r) : river_Count.Stay gn W1 Y := by
 refine ⟨Nat.le_trans h.1 hg.size, fun k o hk hn => (hg.block k (Array.getElem?_eq_some_iff.1 (h.2 k o hk hn)).1 (fun e => ?_)).trans (h.2 k o hk hn)⟩
 have h1 := (Array.getElem?_eq_some_iff.1 hk).1
 have h2 := hr k e.symm
 omega
def river_Count.Inv (w : World) (gn gB : Nat) (row : Array Value) (ys : List (Int × Int)) (pre : List (Int × Int)) (W : World) : Prop :=
 W.heap[gn]? = some (.cells #[.int .i64 (river_Count.all pre ys)] 3 (0, 0)) ∧ W.heap[gB]? = some (.cells row 24 (0, 0)) ∧ Below w.heap.size w W
theorem river_Count.inv_own (w : World) (gn gB B : Nat) (row : Array Value) (ys : List (Int × Int)) (hB : w.heap.size ≤ B) : OwnFrom B (river_Count.Inv w gn gB row ys) := by
 rintro pre X Y r ⟨h1, h2, h3⟩ hg hr
 exact ⟨cells_own (β := Unit) B gn _ (fun _ => #[.int .i64 (river_Count.all pre ys)]) () X Y r h1 hg hr, cells_own (β := Unit) B gB _ (fun _ => row) () X Y r h2 hg hr, h3.grown hg h3.size (fun k e => Nat.le_trans hB (hr k e).1)⟩
theorem river_Count.inv_by (w : World) (gn gB n : Nat) (row : Array Value) (ys : List (Int × Int)) (hw : w.heap.size ≤ n) (hn : gn < n) (hB : gB < n) : AbidesBy (fun k X => n ≤ k ∧ ∃ cs, X.heap[k]? = some (.cells cs 3 (0, 0))) (river_Count.Inv w gn gB row ys) := by
 rintro pre X Y k ⟨h1, h2, h3⟩ ⟨hz, _⟩ hg
 exact ⟨(hg.block gn (Array.getElem?_eq_some_iff.1 h1).1 (fun e => by have := Option.some.inj e; omega)).trans h1, (hg.block gB (Array.getElem?_eq_some_iff.1 h2).1 (fun e => by have := Option.some.inj e; omega)).trans h2, h3.grown hg h3.size (fun j e => by have := Option.some.inj e; omega)⟩
def river_Count.InvI (w W1 : World) (gn : Nat) (n0 : Int) (x : Int × Int) (pre : List (Int × Int)) (W : World) : Prop :=
 W.heap[gn]? = some (.cells #[.int .i64 (pre.foldl (river_Count.one x) n0)] 3 (0, 0)) ∧ river_Count.Stay gn W1 W ∧ Below w.heap.size w W
theorem river_Count.invI_own (w W1 : World) (gn : Nat) (n0 : Int) (x : Int × Int) (B : Nat) (hB : w.heap.size ≤ B) (h1B : W1.heap.size ≤ B) : OwnFrom B (river_Count.InvI w W1 gn n0 x) := by
 rintro pre X Y r ⟨h1, h2, h3⟩ hg hr
 exact ⟨cells_own (β := Unit) B gn _ (fun _ => #[.int .i64 (pre.foldl (river_Count.one x) n0)]) () X Y r h1 hg hr, river_Count.stay_grown h2 hg (fun k e => Nat.le_trans h1B (hr k e).1), h3.grown hg h3.size (fun k e => Nat.le_trans hB (hr k e).1)⟩
theorem river_Count.invI_by (w W1 : World) (gn : Nat) (n0 : Int) (x : Int × Int) (n : Nat) (hw : w.heap.size ≤ n) (h1n : W1.heap.size ≤ n) (hn : gn < n) : AbidesBy (fun k X => n ≤ k ∧ ∃ cs, X.heap[k]? = some (.cells cs 3 (0, 0))) (river_Count.InvI w W1 gn n0 x) := by
 rintro pre X Y k ⟨h1, h2, h3⟩ ⟨hz, _⟩ hg
 exact ⟨(hg.block gn (Array.getElem?_eq_some_iff.1 h1).1 (fun e => by have := Option.some.inj e; omega)).trans h1, river_Count.stay_grown h2 hg (fun j e => by have := Option.some.inj e; omega), h3.grown hg h3.size (fun j e => by have := Option.some.inj e; omega)⟩
set_option maxHeartbeats 4000000 in
set_option maxRecDepth 100000 in
theorem river_Count.calls (a0_0 : Int) (a0_1 : Int) (a0_2 : Int) (a0_3 : Int) (A0_4 : Option Addr) (c0_4 : Nat) (l0_4 : List S33) (a1_0 : Int) (a1_1 : Int) (a1_2 : Int) (a1_3 : Int) (A1_4 : Option Addr) (c1_4 : Nat) (l1_4 : List S33) (r : Int) (w : World) (hr0_4 : Kd.C k33 w A0_4 l0_4.length l0_4) (hc0_4 : l0_4.length ≤ c0_4) (hr1_4 : Kd.C k33 w A1_4 l1_4.length l1_4) (hc1_4 : l1_4.length ≤ c1_4) (h : river_Count.f a0_0 a0_1 a0_2 a0_3 l0_4 a1_0 a1_1 a1_2 a1_3 l1_4 = some r) :
  Calls Try.prog 12 #[.agg #[.int .i64 a0_0, .int .i64 a0_1, .int .i64 a0_2, .int .i64 a0_3, .slice A0_4 l0_4.length c0_4], .agg #[.int .i64 a1_0, .int .i64 a1_1, .int .i64 a1_2, .int .i64 a1_3, .slice A1_4 l1_4.length c1_4]] w fun e w' => e = .returned (.int .i64 r) ∧ Below w.heap.size w w' := by
 obtain rfl := Option.some.inj h
 have hu := Try.underlying24
 have HR := Aside0.mk hr0_4
 have HR1 := Aside0.mk hr1_4
 have HB := Aside0.mk (Below.refl w.heap.size w)
 clear hr0_4 hc0_4 hr1_4 hc1_4 h
 obtain ⟨ys, hys⟩ : ∃ ys, ys = river_gaps_1.gapsOf (api_Placed_1.all l1_4) a1_2 := ⟨_, rfl⟩
 rw [← hys]
 have HYS := Aside0.mk hys
 clear hys
 refine (callsIn_wide (n := 12)).1 ?_
 refine callsIn_of_wp_marks Try.func12 rfl trivial ?_ rfl
 simp only [Try.ntmps12, List.size_toArray, List.length_cons, List.length_nil, Nat.reduceAdd, Nat.reduceSub, Array.replicate_succ, Array.replicate_zero, List.push_toArray, List.append_toArray, List.nil_append, List.cons_append]
 refine wpIn_wide.2 ?_
 go_wp2_with (first | ((with_reducible refine gate_dst (N := 2) rfl ?_); refine box_event ?hg (N := 2) ?hd (cs := #[.int .i64 a0_0, .int .i64 a0_1, .int .i64 a0_2, .int .i64 a0_3, .slice A0_4 l0_4.length c0_4]) (t := 24) ?hr ?_; (case hd => rfl); (case hg => rfl); (case hr => first | (go_simp; done) | (go_simp; rfl)); intro gr hg wa hbox hb; have GEgr := Aside0.mk (show w.heap.size ≤ gr from hg ▸ below_size (by repeat (first | (with_reducible first | exact HB.out | apply below_alloc | apply pw_below_drewN | apply below_drew1) | exact HB.out))); have n0_ := Aside0.mk (below_step (by repeat (first | (with_reducible first | exact HB.out | apply below_alloc | apply pw_below_drewN | apply below_drew1) | exact HB.out)) hb); have BKgr := Aside0.mk hbox; have hxgr := blk_cell hbox; have hygr := blk_frozen hbox; clear HB; have HB := n0_; clear n0_ hb hbox hg) | ((with_reducible refine gate_dst (N := 3) rfl ?_); refine box_event ?hg (N := 3) ?hd (cs := #[.int .i64 a1_0, .int .i64 a1_1, .int .i64 a1_2, .int .i64 a1_3, .slice A1_4 l1_4.length c1_4]) (t := 24) ?hr ?_; (case hd => rfl); (case hg => rfl); (case hr => first | (go_simp; done) | (go_simp; rfl)); intro gB hg wb hbox hb; have NBgB_gr := Aside0.mk (show gB ≠ gr from by have z_ := (Array.getElem?_eq_some_iff.1 BKgr.out).1; omega); have NBgr_gB := Aside0.mk (Ne.symm NBgB_gr.out); have GEgB := Aside0.mk (show w.heap.size ≤ gB from hg ▸ below_size (by repeat (first | (with_reducible first | exact HB.out | apply below_alloc | apply pw_below_drewN | apply below_drew1) | exact HB.out))); have n0_ := Aside0.mk (below_step (by repeat (first | (with_reducible first | exact HB.out | apply below_alloc | apply pw_below_drewN | apply below_drew1) | exact HB.out)) hb); have BKgB := Aside0.mk hbox; have hxgB := blk_cell hbox; have hygB := blk_frozen hbox; have zgr := Aside0.mk (blk_below BKgr.out hb); clear BKgr hxgr hygr; have BKgr := zgr; clear zgr; have hxgr := blk_cell BKgr.out; have hygr := blk_frozen BKgr.out; clear HB; have HB := n0_; clear n0_ hb hbox hg) | ((with_reducible refine gate_dst (N := 5) rfl ?_); refine box_event ?hg (N := 5) ?hd (cs := #[.int .i64 0]) (t := 3) ?hr ?_; (case hd => rfl); (case hg => rfl); (case hr => first | (go_simp; done) | (go_simp; rfl)); intro gn hg wc hbox hb; have NBgn_gr := Aside0.mk (show gn ≠ gr from by have z_ := (Array.getElem?_eq_some_iff.1 BKgr.out).1; omega); have NBgr_gn := Aside0.mk (Ne.symm NBgn_gr.out); have NBgn_gB := Aside0.mk (show gn ≠ gB from by have z_ := (Array.getElem?_eq_some_iff.1 BKgB.out).1; omega); have NBgB_gn := Aside0.mk (Ne.symm NBgn_gB.out); have GEgn := Aside0.mk (show w.heap.size ≤ gn from hg ▸ below_size (by repeat (first | (with_reducible first | exact HB.out | apply below_alloc | apply pw_below_drewN | apply below_drew1) | exact HB.out))); have n0_ := Aside0.mk (below_step (by repeat (first | (with_reducible first | exact HB.out | apply below_alloc | apply pw_below_drewN | apply below_drew1) | exact HB.out)) hb); have BKgn := Aside0.mk hbox; have hxgn := blk_cell hbox; have hygn := blk_frozen hbox; have zgr := Aside0.mk (blk_below BKgr.out hb); clear BKgr hxgr hygr; have BKgr := zgr; clear zgr; have hxgr := blk_cell BKgr.out; have hygr := blk_frozen BKgr.out; have zgB := Aside0.mk (blk_below BKgB.out hb); clear BKgB hxgB hygB; have BKgB := zgB; clear zgB; have hxgB := blk_cell BKgB.out; have hygB := blk_frozen BKgB.out; clear HB; have HB := n0_; clear n0_ hb hbox hg) | ((with_reducible refine gate_store (t := 3) rfl ?_); refine store_one_event (base := w.heap.size) rfl rfl 3 _ _ rfl (g := gn) rfl rfl BKgn.out (by kernel_rfl) rfl GEgn.out ?_; intro ws_ hs_ hk_ hb_; have n0_ := Aside0.mk (HB.out.trans hb_); clear HB; have HB := n0_; clear n0_; have z_ := Aside0.mk ((hk_ gr NBgr_gn.out).trans BKgr.out); clear BKgr hxgr hygr; have BKgr := z_; clear z_; have hxgr := blk_cell BKgr.out; have hygr := blk_frozen BKgr.out; have z_ := Aside0.mk ((hk_ gB NBgB_gn.out).trans BKgB.out); clear BKgB hxgB hygB; have BKgB := z_; clear z_; have hxgB := blk_cell BKgB.out; have hygB := blk_frozen BKgB.out; clear BKgn hxgn hygn; have BKgn := Aside0.mk hs_; have hxgn := blk_cell BKgn.out; have hygn := blk_frozen BKgn.out; clear hs_ hk_ hb_) | ((with_reducible refine gate_dst (N := 8) rfl ?_); refine load_row_event (by first | rfl | (go_simp; done)) 24 _ rfl gr rfl 24 _ (0, 0) _ BKgr.out hu rfl (by kernel_rfl) ?_) | (go_at_call 15; (with_reducible refine (river_gaps.calls a0_0 a0_1 a0_2 a0_3 A0_4 l0_4.length c0_4 _).mono ?_); rintro e wd ⟨rfl, hwd⟩; have HWd := Aside0.mk hwd; clear hwd))
 have hb4 : Below ws_.heap.size ws_ wd := by rw [HWd.out]; exact (Below.refl _ ws_).alloc (Nat.le_refl _) _
 have M0 := Aside0.mk (show wd.heap[ws_.heap.size]? = some (.cells #[.int .i64 a0_0, .int .i64 a0_1, .int .i64 a0_2, .int .i64 a0_3, .slice A0_4 l0_4.length c0_4] 24 (0, 0)) from by rw [HWd.out]; exact World.alloc_heap_new ws_ _)
 have M1 := Aside0.mk (blk_below BKgr.out hb4)
 have M2 := Aside0.mk (blk_below BKgB.out hb4)
 have M3 := Aside0.mk (blk_below BKgn.out hb4)
 have M4 := Aside0.mk (below_step HB.out hb4)
 obtain ⟨Ba, hBa⟩ : ∃ Ba, Ba = ws_.heap.size := ⟨_, rfl⟩
 have MS := Aside0.mk (show Ba < wd.heap.size ∧ gr < Ba ∧ gB < Ba ∧ gn < Ba ∧ w.heap.size ≤ Ba from by
  have h1 := (Array.getElem?_eq_some_iff.1 M0.out).1
  have h2 := (Array.getElem?_eq_some_iff.1 BKgr.out).1
  have h3 := (Array.getElem?_eq_some_iff.1 BKgB.out).1
  have h4 := (Array.getElem?_eq_some_iff.1 BKgn.out).1
  have h5 := HB.out.size
  omega)
 rw [← hBa] at M0 ⊢
 clear hb4 hBa HWd HB BKgr BKgB BKgn hxgr hygr hxgB hygB hxgn hygn
 refine (wpIn_wide (n := 12)).1 ?_
 refine wpIn_rangeFunc_ownZ rfl (by decide) (gf := 18) (lb := #[.pointer (some ⟨Ba, 0, none⟩)]) rfl trivial (enters_of Try.func18 (by kernel_rfl) rfl)
  (river_gaps_1.stops a0_0 a0_1 a0_2 a0_3 A0_4 c0_4 l0_4 (river_Count.X gn (wd.heap.size + 1)) _ Ba w wd M4.out M0.out HR.out ?hXB ?hX ?hXN)
  (fun k X hz => ⟨_, hz.2.choose_spec, rfl⟩) slices_AppendSeq_2_int_2_int.keep_t (slices_AppendSeq_2_int_2_int.keep_b (by have := M4.out.size; omega) (fun o hc => .inr ⟨rfl, hc⟩)) (Below.refl _ _) (fun _ => rfl)
  (river_Count.Inv w gn gB #[.int .i64 a1_0, .int .i64 a1_1, .int .i64 a1_2, .int .i64 a1_3, .slice A1_4 l1_4.length c1_4] ys) (fun _ _ _ => False) (river_Count.inv_own _ _ _ _ _ _ M4.out.size) (fun c pre X Y row h => h.elim) (river_Count.inv_by _ _ _ _ _ _ M4.out.size (by have := MS.out; omega) (by have := MS.out; omega)) (fun c pre X Y k h => h.elim)
  ⟨M3.out, M2.out, M4.out⟩
  (fun (x : Int × Int) a' W' => ∃ gx, gn < gx ∧ W'.heap[gx]? = some (.cells #[.int .i64 x.1, .int .i64 x.2] 36 (0, 0)) ∧ a' = { tmps := #[.agg #[.int .i64 a0_0, .int .i64 a0_1, .int .i64 a0_2, .int .i64 a0_3, .slice A0_4 l0_4.length c0_4], .agg #[.int .i64 a1_0, .int .i64 a1_1, .int .i64 a1_2, .int .i64 a1_3, .slice A1_4 l1_4.length c1_4], .pointer (some ⟨gr, 0, none⟩), .pointer (some ⟨gB, 0, none⟩), .int .i64 0, .pointer (some ⟨gn, 0, none⟩), .pointer (some ⟨gx, 0, none⟩), undef, .agg #[.int .i64 a0_0, .int .i64 a0_1, .int .i64 a0_2, .int .i64 a0_3, .slice A0_4 l0_4.length c0_4], .func (.func 18) #[] #[.pointer (some ⟨Ba, 0, none⟩)], .agg #[.int .i64 x.1, .int .i64 x.2], undef, undef, undef, undef, undef, undef, undef, undef, undef, undef, undef, undef, undef, undef, undef, undef, undef], defers := [] })
  ?hAx ?assign ?body ?done ?stop
 case hXB =>
  rintro o (h | ⟨h, _⟩)
  ·have := MS.out; omega
  ·have := MS.out; omega
 case hX =>
  rintro k cs t hk ht (h | ⟨_, h⟩)
  ·have := MS.out; omega
  ·cases h
 case hXN =>
  rintro k o hk hc (h | ⟨h, _⟩)
  ·have := MS.out; omega
  ·omega
 case hAx =>
  rintro x a' _ Y Y' row ⟨gx, x1, x2, rfl⟩ hg hr
  exact ⟨gx, x1, cells_own (β := Unit) wd.heap.size gx _ (fun _ => #[.int .i64 x.1, .int .i64 x.2]) () Y Y' row x2 hg hr, rfl⟩
 case assign =>
  rintro l2 pre x W1 K ⟨i1, i2, i3⟩ hK
  dsimp only [river_gaps_1.encs]
  have hu := Try.underlying36
  have I1 := Aside0.mk i1
  have I2 := Aside0.mk i2
  have I3 := Aside0.mk i3
  clear i1 i2 i3
  gi_wp2
  have hb : Below W1.heap.size W1 (W1.alloc (.cells #[.int .i64 x.1, .int .i64 x.2] 36)) := (Below.refl _ W1).alloc (Nat.le_refl _) _
  exact hK _ _ ((KeepsOthers.alloc _ _).from _) ⟨(Below.refl _ W1).alloc I3.out.size _, fun k o hk _ => (hb.block k (Array.getElem?_eq_some_iff.1 hk).1).trans hk⟩ ⟨blk_below I1.out hb, blk_below I2.out hb, I3.out.trans (hb.mono I3.out.size)⟩ ⟨W1.heap.size, (Array.getElem?_eq_some_iff.1 I1.out).1, World.alloc_heap_new W1 _, rfl⟩
 case body =>
  rintro l2 pre x a' W1 hl2 ⟨r2, hr2⟩ ⟨i1, i2, i3⟩ ⟨gx, hgx, x1, rfl⟩ hlt
  have I1 := Aside0.mk i1
  have I2 := Aside0.mk i2
  have I3 := Aside0.mk i3
  have X1 := Aside0.mk x1
  have BKgB := I2
  have HR2 := Aside0.mk hr2
  have hFO := open_in open_wide l2
  clear i1 i2 i3 x1 hr2
  refine wpIn_block ?_
  refine wpIn_seq ?_
  refine regionIn_lit hFO (by rintro ⟨_, _, ⟨_, h⟩, _⟩) rfl ?_
  go_wp2_with (first | ((with_reducible refine gate_dst (N := 11) rfl ?_); refine load_row_event (by first | rfl | (go_simp; done)) 24 _ rfl gB rfl 24 _ (0, 0) _ BKgB.out hu rfl (by kernel_rfl) ?_) | (go_at_call 15; (with_reducible refine (river_gaps.calls a1_0 a1_1 a1_2 a1_3 A1_4 l1_4.length c1_4 _).mono ?_); rintro e W2 ⟨rfl, hwd⟩; have HW2 := Aside0.mk hwd; clear hwd))
  have hb4 : Below W1.heap.size W1 W2 := by rw [HW2.out]; exact (Below.refl _ W1).alloc (Nat.le_refl _) _
  have N0 := Aside0.mk (show W2.heap[W1.heap.size]? = some (.cells #[.int .i64 a1_0, .int .i64 a1_1, .int .i64 a1_2, .int .i64 a1_3, .slice A1_4 l1_4.length c1_4] 24 (0, 0)) from by rw [HW2.out]; exact World.alloc_heap_new W1 _)
  have N1 := Aside0.mk (blk_below I1.out hb4)
  have N3 := Aside0.mk (I3.out.trans (hb4.mono I3.out.size))
  have NR := Aside0.mk ((hb4.block l2 (Array.getElem?_eq_some_iff.1 HR2.out).1).trans HR2.out)
  have NST := Aside0.mk (show river_Count.Stay gn W1 W2 from ⟨hb4.size, fun k o hk _ => (hb4.block k (Array.getElem?_eq_some_iff.1 hk).1).trans hk⟩)
  have NS := Aside0.mk (show W1.heap.size < W2.heap.size ∧ gn < W1.heap.size ∧ gx < W1.heap.size ∧ gB < W1.heap.size ∧ w.heap.size ≤ W1.heap.size from by
   have h1 := (Array.getElem?_eq_some_iff.1 N0.out).1
   have h2 := (Array.getElem?_eq_some_iff.1 I1.out).1
   have h3 := (Array.getElem?_eq_some_iff.1 I2.out).1
   have h4 := (Array.getElem?_eq_some_iff.1 X1.out).1
   have h5 := I3.out.size
   omega)
  obtain ⟨Bb, hBb⟩ : ∃ Bb, Bb = W1.heap.size := ⟨_, rfl⟩
  rw [← hBb] at N0 ⊢
  have NB := Aside0.mk hBb
  clear hb4 hBb HW2
  refine wpIn_block ?_
  refine wpIn_rangeFunc_ownZN (l₀ := l2) (r₀ := r2) rfl NR.out (by decide) (gf := 18) (lb := #[.pointer (some ⟨Bb, 0, none⟩)]) rfl trivial (enters_of Try.func18 (by kernel_rfl) rfl)
   (river_Count.stops_in l2 (river_gaps_1.stops a1_0 a1_1 a1_2 a1_3 A1_4 c1_4 l1_4 (river_Count.X gn W2.heap.size) _ Bb w W2 N3.out N0.out HR1.out ?jXB ?jX ?jXN))
   (fun k X hz => ⟨_, hz.2.choose_spec, rfl⟩) slices_AppendSeq_2_int_2_int.keep_t (slices_AppendSeq_2_int_2_int.keep_b N3.out.size (fun o hc => .inr ⟨rfl, hc⟩)) (Below.refl _ _) (fun _ => rfl)
   (river_Count.InvI w W1 gn (river_Count.all pre ys) x) (fun _ _ _ => False) (river_Count.invI_own _ _ _ _ _ _ N3.out.size NST.out.1) (fun c pre X Y row h => h.elim) (river_Count.invI_by _ _ _ _ _ _ N3.out.size NST.out.1 (by have := NS.out; omega)) (fun c pre X Y k h => h.elim)
   ⟨N1.out, NST.out, N3.out⟩
   (fun (y : Int × Int) a' W' => ∃ gy, gn < gy ∧ W'.heap[gy]? = some (.cells #[.int .i64 y.1, .int .i64 y.2] 36 (0, 0)) ∧ a' = { tmps := #[.agg #[.int .i64 a0_0, .int .i64 a0_1, .int .i64 a0_2, .int .i64 a0_3, .slice A0_4 l0_4.length c0_4], .agg #[.int .i64 a1_0, .int .i64 a1_1, .int .i64 a1_2, .int .i64 a1_3, .slice A1_4 l1_4.length c1_4], .pointer (some ⟨gr, 0, none⟩), .pointer (some ⟨gB, 0, none⟩), .int .i64 0, .pointer (some ⟨gn, 0, none⟩), .pointer (some ⟨gx, 0, none⟩), .pointer (some ⟨gy, 0, none⟩), .agg #[.int .i64 a0_0, .int .i64 a0_1, .int .i64 a0_2, .int .i64 a0_3, .slice A0_4 l0_4.length c0_4], .func (.func 18) #[] #[.pointer (some ⟨Ba, 0, none⟩)], .agg #[.int .i64 x.1, .int .i64 x.2], .agg #[.int .i64 a1_0, .int .i64 a1_1, .int .i64 a1_2, .int .i64 a1_3, .slice A1_4 l1_4.length c1_4], .func (.func 18) #[] #[.pointer (some ⟨Bb, 0, none⟩)], .agg #[.int .i64 y.1, .int .i64 y.2], undef, undef, undef, undef, undef, undef, undef, undef, undef, undef, undef, undef, undef, undef], defers := [] })
   ?jAx ?jassign ?jbody ?jdone ?jstop
  case jXB =>
   rintro o (h | ⟨h, _⟩)
   ·have := NS.out; have := NB.out; omega
   ·have := NS.out; have := NB.out; omega
  case jX =>
   rintro k cs t hk ht (h | ⟨_, h⟩)
   ·have := NS.out; omega
   ·cases h
  case jXN =>
   rintro k o hk hc (h | ⟨h, _⟩)
   ·have := NS.out; omega
   ·omega
  case jAx =>
   rintro y a' _ Y Y' row ⟨gy, y1, y2, rfl⟩ hg hr
   exact ⟨gy, y1, cells_own (β := Unit) W2.heap.size gy _ (fun _ => #[.int .i64 y.1, .int .i64 y.2]) () Y Y' row y2 hg hr, rfl⟩
  case jassign =>
   rintro l3 pre3 y W3 K ⟨i1, i2, i3⟩ hK
   dsimp only [river_gaps_1.encs]
   have hu := Try.underlying36
   have J1 := Aside0.mk i1
   have J2 := Aside0.mk i2
   have J3 := Aside0.mk i3
   clear i1 i2 i3
   gi_wp2
   have hb : Below W3.heap.size W3 (W3.alloc (.cells #[.int .i64 y.1, .int .i64 y.2] 36)) := (Below.refl _ W3).alloc (Nat.le_refl _) _
   exact hK _ _ ((KeepsOthers.alloc _ _).from _) ⟨(Below.refl _ W3).alloc J3.out.size _, fun k o hk _ => (hb.block k (Array.getElem?_eq_some_iff.1 hk).1).trans hk⟩ ⟨blk_below J1.out hb, river_Count.stay_grown J2.out (grown_of_below hb) (fun r e => by cases e), J3.out.trans (hb.mono J3.out.size)⟩ ⟨W3.heap.size, (Array.getElem?_eq_some_iff.1 J1.out).1, World.alloc_heap_new W3 _, rfl⟩
  case jbody =>
   rintro l3 pre3 y a' W3 hl3 ⟨r3, hr3⟩ ⟨i1, i2, i3⟩ ⟨gy, hgy, y1, rfl⟩ hlt3
   have J1 := Aside0.mk i1
   have J2 := Aside0.mk i2
   have J3 := Aside0.mk i3
   have Y1 := Aside0.mk y1
   have hcn := blk_cell i1 0
   have hfn := blk_frozen i1
   have hcy0 := blk_cell y1 0
   have hcy1 := blk_cell y1 1
   have hcx := i2.2 gx _ X1.out (by omega)
   have hcx0 := blk_cell hcx 0
   have hcx1 := blk_cell hcx 1
   have hFO3 := open_in hFO l3
   obtain ⟨n0, hn0⟩ : ∃ n0, n0 = pre3.foldl (river_Count.one x) (river_Count.all pre ys) := ⟨_, rfl⟩
   rw [← hn0] at hcn
   have HN0 := Aside0.mk hn0
   clear i1 i2 i3 y1 hr3 hn0 hcx
   have hkx : river_gaps_1.Keep w.heap.size (river_Count.X gn W2.heap.size) W3 (W3.setCell ⟨gn, 0, none⟩ (.int .i64 (wrap64 (n0 + 1)))) :=
    ⟨(Below.refl _ W3).setCell (p := ⟨gn, 0, none⟩) GEgn.out _, fun k o hk hn => (Below.heap_setCell W3 ⟨gn, 0, none⟩ _ k (fun e => hn (.inl e))).trans hk⟩
   have HKX := Aside0.mk hkx
   have F1 : max x.1 y.1 < min x.2 y.2 → KeepsFrom W2.heap.size W3 (W3.setCell ⟨gn, 0, none⟩ (.int .i64 (wrap64 (n0 + 1)))) ∧ river_gaps_1.Keep w.heap.size (river_Count.X gn W2.heap.size) W3 (W3.setCell ⟨gn, 0, none⟩ (.int .i64 (wrap64 (n0 + 1)))) ∧ river_Count.InvI w W1 gn (river_Count.all pre ys) x (pre3 ++ [y]) (W3.setCell ⟨gn, 0, none⟩ (.int .i64 (wrap64 (n0 + 1)))) := fun hov => by
    refine ⟨(KeepsOthers.setCell _ _ _).from _, HKX.out, ?_, ⟨?_, fun k o hk hn => (Below.heap_setCell W3 ⟨gn, 0, none⟩ _ k hn).trans (J2.out.2 k o hk hn)⟩, J3.out.setCell (p := ⟨gn, 0, none⟩) GEgn.out _⟩
    ·rw [List.foldl_append, List.foldl_cons, List.foldl_nil, ← HN0.out, river_Count.one, if_pos hov]
     have := blk_put (cs' := #[.int .i64 (wrap64 (n0 + 1))]) J1.out 0 (.int .i64 (wrap64 (n0 + 1))) rfl
     exact this
    ·simpa using J2.out.1
   have F2 : ¬ max x.1 y.1 < min x.2 y.2 → KeepsFrom W2.heap.size W3 W3 ∧ river_gaps_1.Keep w.heap.size (river_Count.X gn W2.heap.size) W3 W3 ∧ river_Count.InvI w W1 gn (river_Count.all pre ys) x (pre3 ++ [y]) W3 := fun hov => by
    refine ⟨KeepsFrom.refl _ _, ⟨Below.refl _ _, fun k o hk _ => hk⟩, ?_, J2.out, J3.out⟩
    rw [List.foldl_append, List.foldl_cons, List.foldl_nil, ← HN0.out, river_Count.one, if_neg hov, HN0.out]
    exact J1.out
   have HF1 := Aside0.mk F1
   have HF2 := Aside0.mk F2
   clear F1 F2 hkx
   by_cases hov : max x.1 y.1 < min x.2 y.2
   ·have HV := Aside0.mk hov
    gi_wp2
    all_goals exact HF1.out HV.out
   ·have HV := Aside0.mk hov
    gi_wp2
    all_goals exact HF2.out HV.out
  case jdone =>
   rintro xs W hS ⟨h1, h2, h3⟩
   rw [← HYS.out] at hS
   subst hS
   show KeepsFrom _ _ _ ∧ _ ∧ _
   have hn := NS.out
   refine ⟨⟨h2.1, fun k o hk ho hc => h2.2 k o ho (fun e => ?_)⟩, ⟨?_, fun k o hk hx => h2.2 k o hk (fun e => hx (.inl e))⟩, ?_, h2.2 gB _ I2.out (Ne.symm NBgn_gB.out), h3⟩
   ·subst e
    rw [I1.out] at ho
    obtain rfl := Option.some.inj ho
    cases hc
   ·refine ⟨h3.os.trans I3.out.os.symm, h3.tape.trans I3.out.tape.symm, h3.output.trans I3.out.output.symm, h2.1, fun k hk => (h3.block k hk).trans (I3.out.block k hk).symm⟩
   ·have e : river_Count.all (pre ++ [x]) xs = xs.foldl (river_Count.one x) (river_Count.all pre xs) := by unfold river_Count.all; rw [List.foldl_append]; rfl
    rw [e]
    exact h1
  case jstop =>
   rintro c pre W hpre h
   exact h.elim
 case done =>
  rintro D xs W hD hS ⟨h1, h2, h3⟩ hK
  subst hS
  have hgn := blk_cell h1 0
  have H3 := Aside0.mk h3
  have HK := Aside0.mk hK
  clear h1 h2 h3 hK
  gi_wp2
  go_wp2
  have hwD : w.heap.size ≤ D := by have := M4.out.size; omega
  refine ⟨by simp, .inl ⟨_, _, rfl, run_takeDeferred HK.out, ?_⟩⟩
  exact ⟨_, results_tmp rfl _ _ _, rfl, H3.out.trans (belowK_b (w := w) (Nat.le_refl _) W D _ (.deferred none) hwD HK.out rfl rfl)⟩
 case stop =>
  rintro D c pre W hD hpre h hK
  exact h.elim


end Go.Proofs.Ytpicbjcpdngmlaa.G
