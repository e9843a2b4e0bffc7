/- Contracts of the functions of this seat: what each call computes, as a plain Lean function. Made by this session's own generator. -/
import Derived.Test.YtpicbjcpdngmlaaGx0
import Derived.Test.YtpicbjcpdngmlaaGx2
import Derived.Test.YtpicbjcpdngmlaaGx3
namespace Go.Proofs.Ytpicbjcpdngmlaa.G
open Go.RowKit Go.Proofs.YtpicbjcpdngmlaaMy Go.Proofs.YtpicbjcpdngmlaaW.PrintWords Go.Proofs.YtpicbjcpdngmlaaW.PrintLast Go.Proofs.YtpicbjcpdngmlaaW.PrintMore
attribute [local go_sem] max2_int min2_int max_two min_two max_three min_three max_four min_four   -- for this text's walks alone
set_option linter.unusedVariables false
set_option linter.unusedSimpArgs false

/-! ### slices_AppendSeq_2_int_2_int: function 17 -/
-- by hand
attribute [local go_sem] Oper.semAt_some
def slices_AppendSeq_2_int_2_int.mk2 (g : Int × Int) : S36 := ⟨g.1, g.2⟩
theorem slices_AppendSeq_2_int_2_int.R_turn {α : Type} {d : Kd α} {e base : Nat} {ok : Nat → Prop} {v : Value} {xs : List α} {W W' : World} {row : Option Nat} (h : YtpicbjcpdngmlaaW.PrintWords.Kd.R d e W base ok v xs) (hg : W.grownBy W' row) (hr : ∀ r, row = some r → ∃ o : Obj, W.heap[r]? = some o ∧ ∀ q ∈ e :: d.E, ∀ cells, o ≠ .cells cells q (0, 0)) : YtpicbjcpdngmlaaW.PrintWords.Kd.R d e W' base ok v xs :=
  Kd.R_mono (Kd.R_step (Kd.R_bound h) (fun k hk hl => hg.block k hl (fun e2 => by
    obtain ⟨_, _, _, q, hq, cells, hc⟩ := hk
    obtain ⟨o, ho, hn⟩ := hr k e2.symm
    rw [hc] at ho
    obtain rfl := Option.some.inj ho
    exact hn q hq cells rfl))) (fun _ hk => hk.1)
theorem slices_AppendSeq_2_int_2_int.keep_t {n₀ : Nat} {X : Nat → Obj → Prop} {A B C : World} (h : river_gaps_1.Keep n₀ X A B) (k : river_gaps_1.Keep n₀ X B C) : river_gaps_1.Keep n₀ X A C :=
  ⟨h.1.trans k.1, fun i o hi hn => k.2 i o (h.2 i o hi hn) hn⟩
theorem slices_AppendSeq_2_int_2_int.keep_b {n₀ L : Nat} {X : Nat → Obj → Prop} (hL : n₀ ≤ L) (hX : ∀ o, o.isCells = false → X L o) (W : World) (o o' : Obj) (h : W.heap[L]? = some o) (hc : o.isCells = false) (hw : o.isWalk = false) : river_gaps_1.Keep n₀ X W (W.putObj L o') :=
  ⟨belowK_b (w := { W with heap := (W.heap.toList.take L).toArray }) (by simp; have := (Array.getElem?_eq_some_iff.1 h).1; omega) W L o o' (by simp; omega) h hc hw, fun k q hk hn => by
    by_cases e : k = L
    · subst e
      rw [h] at hk
      obtain rfl := Option.some.inj hk
      exact absurd (hX _ hc) hn
    · exact (World.putObj_heap_other e).trans hk⟩
abbrev slices_AppendSeq_2_int_2_int.X (n₀ gs L : Nat) (k : Nat) (o : Obj) : Prop := k = gs ∨ (n₀ ≤ k ∧ ∃ cs, o = .cells cs 36 (0, 0)) ∨ (k = L ∧ o.isCells = false)
def slices_AppendSeq_2_int_2_int.Inv (w : World) (gs : Nat) (pre : List (Int × Int)) (W : World) : Prop :=
  (∃ v, W.heap[gs]? = some (.cells #[v] 28 (0, 0)) ∧ Kd.R k36 36 W w.heap.size (fun _ => True) v (pre.map slices_AppendSeq_2_int_2_int.mk2)) ∧ Below w.heap.size w W
theorem slices_AppendSeq_2_int_2_int.inv_turn {w : World} {gs : Nat} {pre : List (Int × Int)} {X Y : World} {row : Option Nat} (h : slices_AppendSeq_2_int_2_int.Inv w gs pre X) (hg : X.grownBy Y row) (hr : ∀ r, row = some r → w.heap.size ≤ r ∧ r ≠ gs ∧ ∃ o : Obj, X.heap[r]? = some o ∧ ∀ cells, o ≠ .cells cells 36 (0, 0)) : slices_AppendSeq_2_int_2_int.Inv w gs pre Y := by
  obtain ⟨⟨v, h1, h2⟩, h3⟩ := h
  refine ⟨⟨v, (hg.block gs (Array.getElem?_eq_some_iff.1 h1).1 (fun e => (hr gs e.symm).2.1 rfl)).trans h1, slices_AppendSeq_2_int_2_int.R_turn h2 hg (fun r e => ?_)⟩, h3.grown hg h3.size (fun k e => (hr k e).1)⟩
  obtain ⟨_, _, o, ho, hn⟩ := hr r e
  refine ⟨o, ho, fun q hq cells => ?_⟩
  obtain rfl : q = 36 := by simpa [k36, Kd.iso, Kd.pair, Kd.int, Kd.scalar] using hq
  exact hn cells
theorem slices_AppendSeq_2_int_2_int.inv_own (w : World) (gs B : Nat) (hB : w.heap.size ≤ B) : OwnFrom B (slices_AppendSeq_2_int_2_int.Inv w gs) := by
  rintro pre X Y row h hg hr
  obtain ⟨⟨v, h1, h2⟩, h3⟩ := h
  refine slices_AppendSeq_2_int_2_int.inv_turn ⟨⟨v, h1, h2⟩, h3⟩ hg (fun r e => ?_)
  obtain ⟨hb, o, ho, hc⟩ := hr r e
  refine ⟨Nat.le_trans hB hb, fun e2 => ?_, o, ho, fun cells e3 => ?_⟩
  · subst e2
    rw [h1] at ho
    obtain rfl := Option.some.inj ho
    cases hc
  · subst e3
    cases hc
theorem slices_AppendSeq_2_int_2_int.inv_by (w : World) (gs n : Nat) (hB : w.heap.size ≤ n) (hg : gs < n) : AbidesBy (fun k X => n ≤ k ∧ ∃ cs, X.heap[k]? = some (.cells cs 3 (0, 0))) (slices_AppendSeq_2_int_2_int.Inv w gs) := by
  rintro pre X Y k h ⟨hz, cs, hcs⟩ hg
  refine slices_AppendSeq_2_int_2_int.inv_turn h hg (fun r e => ?_)
  obtain rfl := Option.some.inj e
  exact ⟨Nat.le_trans hB hz, by omega, _, hcs, fun cells e3 => by cases e3⟩
set_option maxHeartbeats 4000000 in
set_option maxRecDepth 100000 in
theorem slices_AppendSeq_2_int_2_int.calls (a0_0 a0_1 a0_2 a0_3 : Int) (A0 : Option Addr) (c0 : Nat) (l0 : List S33) (B : Nat) (w : World)
    (hB : w.heap[B]? = some (.cells #[.int .i64 a0_0, .int .i64 a0_1, .int .i64 a0_2, .int .i64 a0_3, .slice A0 l0.length c0] 24 (0, 0))) (hr0 : Kd.C k33 w A0 l0.length l0) (hl : l0.length < 1000000000000) :
    Calls Try.prog 17 #[.slice none 0 0, .func (.func 18) #[] #[.pointer (some ⟨B, 0, none⟩)]] w fun e w' => ∃ v, e = .returned v ∧ Kd.R k36 36 w' w.heap.size (fun _ => True) v ((river_gaps_1.gapsOf (api_Placed_1.all l0) a0_2).map slices_AppendSeq_2_int_2_int.mk2) ∧ Below w.heap.size w w' := by
  have HR := Aside0.mk hr0
  have HL := Aside0.mk hl
  have HBk := Aside0.mk hB
  have HBs := Aside0.mk (Array.getElem?_eq_some_iff.1 hB).1
  have HB := Aside0.mk (Below.refl w.heap.size w)
  clear hr0 hl hB
  refine (callsIn_wide (n := 8)).1 ?_
  refine callsIn_of_wp_marks Try.func17 rfl trivial ?_ rfl
  simp only [Try.ntmps17, List.size_toArray, List.length_cons, List.length_nil, Nat.reduceAdd, Nat.reduceSub, Array.replicate_succ, Array.replicate_zero, List.push_toArray, List.append_toArray, List.nil_append, List.cons_append]
  refine wpIn_wide.2 ?_
  go_wp2_with (first | ((with_reducible refine gate_dst (N := 2) rfl ?_); refine box_event ?hg (N := 2) ?hd (cs := #[.slice none 0 0]) (t := 28) ?hr ?_; (case hd => rfl); (case hg => rfl); (case hr => first | (go_simp; done) | (go_simp; rfl)); intro gs hg wa hbox hb; have HBk1 := Aside0.mk (blk_below HBk.out hb); clear HBk; have HBk := HBk1; clear HBk1; have GEgs := Aside0.mk (show w.heap.size ≤ gs from hg ▸ below_size (by repeat (first | (with_reducible first | exact HB.out | apply below_alloc | apply pw_below_drewN | apply below_drew1) | exact HB.out))); have n0_ := Aside0.mk (below_step (by repeat (first | (with_reducible first | exact HB.out | apply below_alloc | apply pw_below_drewN | apply below_drew1) | exact HB.out)) hb); have BKgs := Aside0.mk hbox; have hxgs := blk_cell hbox; have hygs := blk_frozen hbox; clear HB; have HB := n0_; clear n0_ hb hbox hg))
  have hgl : gs < wa.heap.size := (Array.getElem?_eq_some_iff.1 BKgs.out).1
  refine (wpIn_wide (n := 8)).1 ?_
  refine wpIn_rangeFunc_ownZ rfl (by decide) (gf := 18) (lb := #[.pointer (some ⟨B, 0, none⟩)]) rfl trivial (enters_of Try.func18 (by kernel_rfl) rfl)
    (river_gaps_1.stops a0_0 a0_1 a0_2 a0_3 A0 c0 l0 (slices_AppendSeq_2_int_2_int.X w.heap.size gs (wa.heap.size + 1)) _ B w wa HB.out HBk.out HR.out ?hXB ?hX ?hXN)
    (fun k X hz => ⟨_, hz.2.choose_spec, rfl⟩) slices_AppendSeq_2_int_2_int.keep_t (slices_AppendSeq_2_int_2_int.keep_b (by have := HB.out.size; omega) (fun o hc => .inr (.inr ⟨rfl, hc⟩))) (Below.refl _ _) (fun _ => rfl)
    (slices_AppendSeq_2_int_2_int.Inv w gs) (fun _ _ _ => False) (slices_AppendSeq_2_int_2_int.inv_own w gs _ HB.out.size) (fun c pre X Y row h => h.elim) (slices_AppendSeq_2_int_2_int.inv_by w gs _ HB.out.size hgl) (fun c pre X Y k h => h.elim)
    ⟨⟨_, BKgs.out, Kd.R_nil _ _ _ _ _⟩, HB.out⟩
    (fun (x : Int × Int) a' W' => ∃ gx, gs < gx ∧ W'.heap[gx]? = some (.cells #[.int .i64 x.1, .int .i64 x.2] 36 (0, 0)) ∧ a' = { tmps := #[.slice none 0 0, .func (.func 18) #[] #[.pointer (some ⟨B, 0, none⟩)], .pointer (some ⟨gs, 0, none⟩), undef, .slice none 0 0, .pointer (some ⟨gx, 0, none⟩), .func (.func 18) #[] #[.pointer (some ⟨B, 0, none⟩)], .agg #[.int .i64 x.1, .int .i64 x.2], undef, undef, undef, undef, undef], defers := [] })
    ?hAx ?assign ?body ?done ?stop
  case hXB =>
    rintro o (h | ⟨h, _⟩ | ⟨h, _⟩)
    · have := HBs.out; have := GEgs.out; omega
    · have := HBs.out; omega
    · have := HBs.out; have := HB.out.size; omega
  case hX =>
    rintro k cs t hk ht (h | ⟨_, cs', h⟩ | ⟨_, h⟩)
    · omega
    · cases h; exact ht rfl
    · cases h
  case hXN =>
    rintro k o hk hc (h | ⟨_, cs', h⟩ | ⟨h, _⟩)
    · omega
    · subst h; cases hc
    · omega
  case hAx =>
    rintro x a' _ Y Y' row ⟨gx, x1, x2, rfl⟩ hg hr
    exact ⟨gx, x1, cells_own (β := Unit) wa.heap.size gx _ (fun _ => #[.int .i64 x.1, .int .i64 x.2]) () Y Y' row x2 hg hr, rfl⟩
  case assign =>
    rintro l2 pre x W1 K ⟨⟨v, i1, i2⟩, i3⟩ hK
    dsimp only [river_gaps_1.encs]
    have hu := Try.underlying36
    have I1 := Aside0.mk i1
    have I2 := Aside0.mk i2
    have I3 := Aside0.mk i3
    clear i1 i2 i3
    gi_wp2
    have hb : Below W1.heap.size W1 (W1.alloc (.cells #[.int .i64 x.1, .int .i64 x.2] 36)) := (Below.refl _ W1).alloc (Nat.le_refl _) _
    exact hK _ _ ((KeepsOthers.alloc _ _).from _) ⟨(Below.refl _ W1).alloc I3.out.size _, fun k o hk _ => (hb.block k (Array.getElem?_eq_some_iff.1 hk).1).trans hk⟩ ⟨⟨v, blk_below I1.out hb, Kd.R_below I2.out hb⟩, I3.out.trans (hb.mono I3.out.size)⟩ ⟨W1.heap.size, (Array.getElem?_eq_some_iff.1 I1.out).1, World.alloc_heap_new W1 _, rfl⟩
  case body =>
    rintro l2 pre x a' W1 hl2 ⟨r2, hr2⟩ ⟨⟨v, i1, i2⟩, i3⟩ ⟨gx, hgx, x1, rfl⟩ hlt
    obtain ⟨A, c, e⟩ := Kd.R_slice i2
    subst e
    have hu := Try.underlying36
    have I1 := Aside0.mk i1
    have I2 := Aside0.mk i2
    have I3 := Aside0.mk i3
    have X1 := Aside0.mk x1
    have HLN0 := Aside0.mk (show (pre.map slices_AppendSeq_2_int_2_int.mk2).length + 1 < 1000000000000 from by have := HL.out; rw [List.length_map]; omega)
    obtain ⟨xs, hxs⟩ : ∃ xs, xs = pre.map slices_AppendSeq_2_int_2_int.mk2 := ⟨_, rfl⟩
    have HXS := Aside0.mk hxs
    rw [← hxs] at I1 I2 HLN0 i1
    have HLN := HLN0
    have hgs := blk_cell i1 0
    clear hxs HLN0
    have hFO := open_in open_wide l2
    clear i1 i2 i3 x1 HB
    have HB := I3
    have HO := I2
    refine wpIn_block ?_
    refine regionIn_lit hFO (by rintro ⟨_, _, ⟨_, h⟩, _⟩) rfl ?_
    go_wp2_with (first | ((with_reducible refine gate_dst (N := 9) rfl ?_); refine load_row_event (by first | rfl | (go_simp; done)) 36 _ rfl gx rfl 36 _ (0, 0) _ X1.out hu rfl (by kernel_rfl) ?_) | ((with_reducible refine gate_builtin (b := .append) (xs := #[.tmp 8, .tmp 10]) rfl ?_); at_builtin; refine Kd.R_append k36 (w0 := w) w.heap.size rfl (.tmp 8) (.tmp 10) 28 36 (.agg #[(.int .i64 0), (.int .i64 0)]) 16 rfl Try.underlying28 info36 rfl (by decide) (by omega) (.slice A xs.length c) xs ((slices_AppendSeq_2_int_2_int.mk2 x)) [.int .i64 x.1, .int .i64 x.2] (fun _ => True) (fun _ => False) rfl rfl ?aP (fun _ hk => hk.elim) ?aF ?aO ?aB ?aS ?aL ?_; (case aP => exact k36_mkM _ _ _ (slices_AppendSeq_2_int_2_int.mk2 x)); (case aB => exact (by repeat (first | (with_reducible first | exact HB.out | apply below_alloc | apply pw_below_drewN | apply below_drew1) | exact HB.out))); (case aF => exact (fun _ _ => trivial)); (case aO => exact (by (with_reducible repeat (first | apply Kd.R_alloc | apply Kd.R_drewN | apply Kd.R_drew)); exact HO.out)); (case aS => exact (below_size (by repeat (first | (with_reducible first | exact HB.out | apply below_alloc | apply pw_below_drewN | apply below_drew1) | exact HB.out)))); (case aL => have := HLN.out; omega); intro v2 w2 ho hb hg hat; obtain ⟨A2, c2, e2⟩ := Kd.R_slice ho; subst e2; have P2 := (hg.block gs (Array.getElem?_eq_some_iff.1 I1.out).1 (Kd.R_ne I2.out I1.out (by decide))).trans I1.out; have HP2 := Aside0.mk P2; have hq := blk_cell P2 0; have hfq := blk_frozen P2; have HG2 := Aside0.mk hg; clear hgs P2; have n0_ := Aside0.mk (hb); have n1_ := Aside0.mk (ho); clear HB; clear HO; have HB := n0_; have HO2 := n1_; clear n0_ n1_; clear ho hb hg hat))
    show KeepsFrom _ _ _ ∧ _ ∧ _
    have HO3 := HO2.out
    rw [show (xs ++ [slices_AppendSeq_2_int_2_int.mk2 x]).length = xs.length + 1 by simp] at HO3
    refine ⟨?_, ⟨?_, ?_⟩, ⟨.slice A2 (xs.length + 1) c2, ?_, ?_⟩, ?_⟩
    · refine ((KeepsOthers.of_grownBy HG2.out ?_).trans (KeepsOthers.setCell _ _ _)).from _
      intro j o hj ho
      obtain ⟨cells, hc⟩ := Kd.R_typed I2.out j hj
      rw [hc] at ho
      obtain rfl := Option.some.inj ho
      rfl
    · exact ((Below.refl _ W1).grown HG2.out I3.out.size (fun k e => Kd.R_base I2.out k e)).setCell (p := ⟨gs, 0, none⟩) GEgs.out _
    · intro k o hk hn
      have hkg : k ≠ gs := fun e => hn (.inl e)
      refine (Below.heap_setCell _ ⟨gs, 0, none⟩ _ k hkg).trans ((HG2.out.block k (Array.getElem?_eq_some_iff.1 hk).1 (fun e => ?_)).trans hk)
      obtain ⟨cells, hc⟩ := Kd.R_typed I2.out k e.symm
      rw [hc] at hk
      obtain rfl := Option.some.inj hk
      exact hn (.inr (.inl ⟨Kd.R_base I2.out k e.symm, _, rfl⟩))
    · have := blk_put (cs' := #[.slice A2 (xs.length + 1) c2]) HP2.out 0 (.slice A2 (xs.length + 1) c2) rfl
      exact this
    · rw [List.map_append, List.map_cons, List.map_nil, ← HXS.out]
      refine slices_AppendSeq_2_int_2_int.R_turn HO3 (grownBy_setCell' _ gs _) (fun r e => ?_)
      obtain rfl := Option.some.inj e
      exact ⟨_, HP2.out, fun q hq cells e3 => by
        obtain rfl : q = 36 := by simpa [k36, Kd.iso, Kd.pair, Kd.int, Kd.scalar] using hq
        cases e3⟩
    · exact HB.out.setCell (p := ⟨gs, 0, none⟩) GEgs.out _
  case done =>
    rintro D xs W hD hS ⟨⟨v, h1, h2⟩, h3⟩ hK
    obtain ⟨A, c, e⟩ := Kd.R_slice h2
    subst e
    subst hS
    have hgs := blk_cell h1 0
    have H1 := Aside0.mk h1
    have H2 := Aside0.mk h2
    have H3 := Aside0.mk h3
    have HK := Aside0.mk hK
    clear h1 h2 h3 hK
    gi_wp2
    go_wp2
    have hwD : w.heap.size ≤ D := by have := HB.out.size; omega
    have H2' := H2.out
    rw [List.length_map] at H2'
    refine ⟨by simp, .inl ⟨_, _, rfl, run_takeDeferred HK.out, ?_⟩⟩
    refine ⟨_, results_tmp rfl _ _ _, _, rfl, slices_AppendSeq_2_int_2_int.R_turn H2' (grownBy_putObj' W D (.deferred none)) (fun r e => ?_), H3.out.trans (belowK_b (w := w) (Nat.le_refl _) W D _ (.deferred none) hwD HK.out rfl rfl)⟩
    obtain rfl := Option.some.inj e
    exact ⟨_, HK.out, fun q hq cells e3 => by cases e3⟩
  case stop =>
    rintro D c pre W hD hpre h hK
    exact h.elim


/-! ### slices_Collect_2_int: function 14 -/
-- by hand
theorem slices_Collect_2_int.calls (a0_0 a0_1 a0_2 a0_3 : Int) (A0 : Option Addr) (c0 : Nat) (l0 : List S33) (B : Nat) (w : World)
    (hB : w.heap[B]? = some (.cells #[.int .i64 a0_0, .int .i64 a0_1, .int .i64 a0_2, .int .i64 a0_3, .slice A0 l0.length c0] 24 (0, 0))) (hr0 : Kd.C k33 w A0 l0.length l0) (hl : l0.length < 1000000000000) :
    Calls Try.prog 14 #[.func (.func 18) #[] #[.pointer (some ⟨B, 0, none⟩)]] w fun e w' => ∃ v, e = .returned v ∧ Kd.R k36 36 w' w.heap.size (fun _ => True) v ((river_gaps_1.gapsOf (api_Placed_1.all l0) a0_2).map slices_AppendSeq_2_int_2_int.mk2) ∧ Below w.heap.size w w' := by
  have HA := Aside0.mk (slices_AppendSeq_2_int_2_int.calls a0_0 a0_1 a0_2 a0_3 A0 c0 l0 B w hB hr0 hl)
  clear hB hr0 hl
  go_enter Try.func14, Try.ntmps14
  go_wp2_with (first | (go_at_call 17; (with_reducible refine HA.out.mono ?_); rintro e w1 ⟨v, rfl, hr, hb⟩; obtain ⟨Av, cv, ev⟩ := Kd.R_slice hr; subst ev; rw [List.length_map] at hr; have HR := Aside0.mk hr; have HB := Aside0.mk hb; clear hr hb))
  go_ret
  exact ⟨_, rfl, HR.out, HB.out⟩

/-! ### river_gaps: function 15 -/
-- by hand
theorem river_gaps.calls (a0_0 a0_1 a0_2 a0_3 : Int) (A0_4 : Option Addr) (n0_4 c0_4 : Nat) (w : World) :
    Calls Try.prog 15 #[.agg #[.int .i64 a0_0, .int .i64 a0_1, .int .i64 a0_2, .int .i64 a0_3, .slice A0_4 n0_4 c0_4]] w fun e w' => e = .returned (.func (.func 18) #[] #[.pointer (some ⟨w.heap.size, 0, none⟩)]) ∧ w' = w.alloc (.cells #[.int .i64 a0_0, .int .i64 a0_1, .int .i64 a0_2, .int .i64 a0_3, .slice A0_4 n0_4 c0_4] 24) := by
  have hu := Try.underlying24
  go_enter Try.func15, Try.ntmps15
  go_wp2
  go_ret
  exact ⟨rfl, rfl⟩

/-! ### slices_Reverse_2_int_2_int: function 16 -/
-- by hand
def slices_Reverse_2_int_2_int.l0 : Nat → List (S36) → Int → Int → Option ((List (S36)))
 | 0, _, _, _ => none
 | k + 1, x0, x2, x3 => if x2 < x3 then (if 0 ≤ x3 then (if x3 < (x0.length : Int) then (if 0 ≤ x2 then (if x2 < (x0.length : Int) then (slices_Reverse_2_int_2_int.l0 k ((x0.set (x2 : Int).toNat (⟨(rd_T36 x0 x3).f0, (rd_T36 x0 x3).f1⟩ : S36)).set (x3 : Int).toNat (⟨(rd_T36 x0 x2).f0, (rd_T36 x0 x2).f1⟩ : S36)) (wrap64 (x2 + 1)) (wrap64 (x3 - 1))) else (none)) else (none)) else (none)) else (none)) else (some x0)
def slices_Reverse_2_int_2_int.f (k : Nat) (l0 : List (S36)) : Option ((List (S36))) := slices_Reverse_2_int_2_int.l0 k l0 0 (wrap64 ((l0.length : Int) - 1))
theorem slices_Reverse_2_int_2_int.mono_l : ∀ k, (∀ y0 y1 y2, LeO (slices_Reverse_2_int_2_int.l0 k y0 y1 y2) (slices_Reverse_2_int_2_int.l0 (k + 1) y0 y1 y2))
 | 0 => fun _ _ _ r h => by simp [slices_Reverse_2_int_2_int.l0] at h
 | k + 1 => by
  have ih0 := slices_Reverse_2_int_2_int.mono_l k
  ·intro y0 y1 y2
   unfold slices_Reverse_2_int_2_int.l0
   repeat' first
   | (with_reducible exact ih0 _ _ _)
   | (with_reducible exact LeO.refl _)
   | (with_reducible exact LeO.none _)
   | (with_reducible refine LeO.ite ?_ ?_)
   | (with_reducible refine LeO.bind ?_ (fun _ => ?_))
   | exact ih0 _ _ _
   | exact LeO.none _
   | refine LeO.ite ?_ ?_
   | refine LeO.bind ?_ (fun _ => ?_)
theorem slices_Reverse_2_int_2_int.mono : ∀ a0 k, LeO (slices_Reverse_2_int_2_int.f k a0) (slices_Reverse_2_int_2_int.f (k + 1) a0) := by
 intro a0 k
 have ih0 := slices_Reverse_2_int_2_int.mono_l k
 unfold slices_Reverse_2_int_2_int.f
 repeat' first
   | (with_reducible exact ih0 _ _ _)
   | (with_reducible exact LeO.refl _)
   | (with_reducible exact LeO.none _)
   | (with_reducible refine LeO.ite ?_ ?_)
   | (with_reducible refine LeO.bind ?_ (fun _ => ?_))
   | exact ih0 _ _ _
   | exact LeO.none _
   | refine LeO.ite ?_ ?_
   | refine LeO.bind ?_ (fun _ => ?_)
def slices_Reverse_2_int_2_int.T3 : Bool × List (List Nat × List Nat) := (true, [([], []), ([], []), ([], []), ([], []), ([], []), ([], []), ([4, 5], [4, 5]), ([6], [6]), ([], []), ([], []), ([8, 9], [8, 9]), ([10], [10]), ([0, 1, 0, 1, 4, 5, 6, 7, 11], [0, 1]), ([12, 7, 0, 1, 4, 5, 6, 7, 11], [7, 12]), ([2, 3, 0, 1, 2, 3, 4, 5, 6, 7, 8, 9, 10, 11, 12, 13], [2, 3]), ([14, 11, 13, 0, 1, 2, 3, 4, 5, 6, 7, 8, 9, 10, 11, 12, 13], [11, 14])])
def slices_Reverse_2_int_2_int.B3 : List Nat := [0, 0, 0, 0, 0, 0, 48, 112, 0, 0, 768, 1792, 4083, 8179, 16383, 32767]
theorem slices_Reverse_2_int_2_int.tab3 : rtab .any (opsOf Try.f16 3) = slices_Reverse_2_int_2_int.T3 := by kernel_rfl
theorem slices_Reverse_2_int_2_int.bits3 : waitsOk slices_Reverse_2_int_2_int.T3.2 slices_Reverse_2_int_2_int.B3 = true := by kernel_rfl
set_option maxHeartbeats 8000000 in
set_option maxRecDepth 100000 in
theorem slices_Reverse_2_int_2_int.calls (k : Nat) (P0_ : Nat → Prop) (u9000_ : Value) (l0 : List (S36)) (r : List (S36)) (w0 w : World) (hB : Below w0.heap.size w0 w) (ho0 : Kd.R k36 36 w w0.heap.size P0_ u9000_ l0) (h : slices_Reverse_2_int_2_int.f k l0 = some r) :
  Calls Try.prog 16 #[u9000_] w fun e w' => e = .returned (.tuple #[]) ∧ Kd.R k36 36 w' w0.heap.size (fun k_ => (P0_ k_ ∨ w.heap.size ≤ k_)) u9000_ r ∧ Below w0.heap.size w0 w' ∧ Kept w w' (fun k_ => P0_ k_) := by
 have hu36 := Try.underlying36
 have HO0 := Aside0.mk (show Kd.R k36 36 w w0.heap.size (fun k_ => (P0_ k_ ∨ w.heap.size ≤ k_)) u9000_ l0 from Kd.R_mono ho0 (fun k_ hk => (.inl hk)))
 have HK := Aside0.mk (Kept.refl w (fun k_ => P0_ k_))
 have HW0 := Aside0.mk hB.size
 have HB := Aside0.mk hB
 clear hB
 have H : (slices_Reverse_2_int_2_int.l0 k l0 0 (wrap64 ((l0.length : Int) - 1))) = some r := h
 clear h
 have H' := Aside0.mk H
 clear H
 obtain ⟨Ao2, co2, eo2⟩ := Kd.R_slice HO0.out
 subst eo2
 go_enter Try.func16, Try.ntmps16
 go_wp2
 go_loopg [2, 3] k (fun kq v2 v3 w' => ∃ (x0_1 : List (S36)) (x2_1 : Int) (x3_1 : Int), v2 = .int .i64 x2_1 ∧ v3 = .int .i64 x3_1 ∧ Aside0 (slices_Reverse_2_int_2_int.l0 kq x0_1 x2_1 x3_1 = some r) ∧ Aside0 (kq ≤ k) ∧ Aside0 (Kd.R k36 36 w' w0.heap.size (fun k_ => (P0_ k_ ∨ w.heap.size ≤ k_)) (.slice Ao2 l0.length co2) x0_1) ∧ Aside0 (Kept w w' (fun k_ => P0_ k_)) ∧ Aside0 (Below w0.heap.size w0 w'))
 case atStart => exact ⟨(l0), (0), (wrap64 ((l0.length : Int) - 1)), (by first | rfl | (simp; done) | (simp [*]; done)), (by first | rfl | (simp; done) | (simp [*]; done)), H', ⟨Nat.le_refl _⟩, ⟨by (with_reducible repeat (first | apply Kd.R_alloc | apply Kd.R_drewN | apply Kd.R_drew)); exact HO0.out⟩, ⟨by repeat (first | (with_reducible first | exact HK.out | apply Kept.alloc | apply Kept.drewN | apply Kept.drew) | exact HK.out)⟩, ⟨by repeat (first | (with_reducible first | exact HB.out | apply below_alloc | apply pw_below_drewN | apply below_drew1) | exact HB.out)⟩⟩
 case round =>
  clear H'
  try clear c1
  try clear p2
  obtain ⟨x0_1, x2_1, x3_1, rfl, rfl, HA, HK1, HO_0, HK, HB⟩ := hrel
  have hl0_1 := (Kd.R_reads' HO_0.out).1
  rw [hl0_1] at HO_0
  (try simp only [hl0_1])
  cases gk with
  | zero => exact absurd HA.out (by simp [slices_Reverse_2_int_2_int.l0])
  | succ k1 =>
   have H := HA.out
   clear HA
   simp only [slices_Reverse_2_int_2_int.l0] at H
   by_cases c3 : x2_1 < x3_1
   ·rw [if_pos c3] at H
    have c3b0 : decide (x2_1 < x3_1) = true := decide_eq_true c3
    clear c3
    by_cases c4 : 0 ≤ x3_1
    ·rw [if_pos c4] at H
     have c4b0 : decide (0 ≤ x3_1) = true := decide_eq_true c4
     clear c4
     by_cases c5 : x3_1 < (x0_1.length : Int)
     ·rw [if_pos c5] at H
      have c5b0 : decide (x3_1 < (x0_1.length : Int)) = true := decide_eq_true c5
      clear c5
      by_cases c6 : 0 ≤ x2_1
      ·rw [if_pos c6] at H
       have c6b0 : decide (0 ≤ x2_1) = true := decide_eq_true c6
       clear c6
       by_cases c7 : x2_1 < (x0_1.length : Int)
       ·rw [if_pos c7] at H
        have c7b0 : decide (x2_1 < (x0_1.length : Int)) = true := decide_eq_true c7
        clear c7
        obtain ⟨y105, hy105⟩ : ∃ y_ : List (S36), y_ = (x0_1.set (x2_1 : Int).toNat (⟨(rd_T36 x0_1 x3_1).f0, (rd_T36 x0_1 x3_1).f1⟩ : S36)) := ⟨_, rfl⟩
        replace H : (slices_Reverse_2_int_2_int.l0 k1 (y105.set (x3_1 : Int).toNat (⟨(rd_T36 x0_1 x2_1).f0, (rd_T36 x0_1 x2_1).f1⟩ : S36)) (wrap64 (x2_1 + 1)) (wrap64 (x3_1 - 1))) = some r := by first | (rw [hy105]; with_reducible exact H) | (have H2_ := (Option.bind_some _ _).symm.trans H; rw [hy105]; with_reducible exact H2_) | (have H2_ := (Option.bind_some _ _).symm.trans H; with_reducible exact H2_) | with_reducible exact H | (rw [hy105]; exact H) | exact H
        have Ny105 := Aside0.mk hy105
        clear hy105
        obtain ⟨y106, hy106⟩ : ∃ y_ : List (S36), y_ = (y105.set (x3_1 : Int).toNat (⟨(rd_T36 x0_1 x2_1).f0, (rd_T36 x0_1 x2_1).f1⟩ : S36)) := ⟨_, rfl⟩
        replace H : (slices_Reverse_2_int_2_int.l0 k1 y106 (wrap64 (x2_1 + 1)) (wrap64 (x3_1 - 1))) = some r := by first | (rw [hy106]; with_reducible exact H) | (have H2_ := (Option.bind_some _ _).symm.trans H; rw [hy106]; with_reducible exact H2_) | (have H2_ := (Option.bind_some _ _).symm.trans H; with_reducible exact H2_) | with_reducible exact H | (rw [hy106]; exact H) | exact H
        have Ny106 := Aside0.mk hy106
        clear hy106
        have H' := Aside0.mk H
        clear H
        try go_wp2
        have n0_ := Aside0.mk (Kd.R_drew HO_0.out)
        have n1_ := Aside0.mk (Kept.drew HK.out)
        have n2_ := Aside0.mk (below_drew1 HB.out)
        clear HO_0
        clear HK
        clear HB
        have HO_0 := n0_
        have HK := n1_
        have HB := n2_
        clear n0_ n1_ n2_
        have p103 : 0 ≤ (x3_1 : Int) := odt
        have q103 : x3_1 < (x0_1.length : Int) := odt
        obtain ⟨ad103, e103, hx103_0, hx103_1⟩ := at_T36 (Kd.R_reads' HO_0.out).2.2 x3_1 p103 q103
        cases e103
        replace p103 := eq_true p103
        replace q103 := eq_true q103
        have p104 : 0 ≤ (x2_1 : Int) := odt
        have q104 : x2_1 < (x0_1.length : Int) := odt
        obtain ⟨ad104, e104, hx104_0, hx104_1⟩ := at_T36 (Kd.R_reads' HO_0.out).2.2 x2_1 p104 q104
        obtain rfl : ad103 = ad104 := (by injection e104)
        replace p104 := eq_true p104
        replace q104 := eq_true q104
        have p8 : 0 ≤ (x2_1 : Int) := odt
        have q8 : (x2_1 : Int) < ((x0_1.length : Int) : Int) := odt
        obtain ⟨go8, co8, eo8, gb8, gl8, cl8, HG8⟩ := Kd.R_form HO_0.out (by omega)
        (first | cases eo8 | (injection eo8 with ea_ en_ ec_; (first | subst ea_ | (injection ea_ with ea_; subst ea_)); subst ec_; clear en_))
        have GB8 := Aside0.mk gb8
        have GG8 := Aside0.mk HG8
        clear gb8 gl8 HG8
        have HMgo8 := Aside0.mk (show (P0_ go8 ∨ w.heap.size ≤ go8) from (HO_0.out.1 _ rfl))
        (first | simp only [add_plain] at hx103_0 | skip)
        (first | simp only [add_plain] at hx103_1 | skip)
        (first | simp only [add_plain] at hx104_0 | skip)
        (first | simp only [add_plain] at hx104_1 | skip)
        obtain ⟨ce8, hcl8, hM8, hcc8, hfr8⟩ := Kd.R_elem HO_0.out z36 (x2_1 : Int) p8 q8
        obtain rfl := k36_openM hM8
        have hx8_0 : World.cell? _ ⟨go8, (x2_1 : Int).toNat * 2, none⟩ = some (.int .i64 ((rd_T36 x0_1 x2_1).f0)) := hcc8 0 _ rfl
        have hx8_1 : World.cell? _ ⟨go8, (x2_1 : Int).toNat * 2 + 1, none⟩ = some (.int .i64 ((rd_T36 x0_1 x2_1).f1)) := hcc8 1 _ rfl
        have hf8_0 : World.frozen? _ ⟨go8, (x2_1 : Int).toNat * 2, none⟩ = false := hfr8 0
        have hf8_1 : World.frozen? _ ⟨go8, (x2_1 : Int).toNat * 2 + 1, none⟩ = false := hfr8 1
        clear hcl8 hcc8 hfr8; (try clear hM8)
        replace p8 := eq_true p8
        replace q8 := eq_true q8
        obtain ⟨ce11, hcl11, hM11, hcc11, hfr11⟩ := Kd.R_elem HO_0.out z36 (x2_1 : Int) (odt) (by have h_ : (x2_1 : Int) < ((x0_1.length : Int) : Int) := odt; first | exact h_ | (have e_ := (Kd.R_reads' HO_0.out).1; omega) | simpa using h_)
        obtain rfl := k36_openM hM11
        have HP11 := (Kd.R_seg HO_0.out (x2_1 : Int) (odt) (by have h_ : (x2_1 : Int) < ((x0_1.length : Int) : Int) := odt; first | exact h_ | (have e_ := (Kd.R_reads' HO_0.out).1; omega) | simpa using h_) (seg := [.int .i64 ((rd_T36 x0_1 x3_1).f0), .int .i64 ((rd_T36 x0_1 x3_1).f1)]) (j := 0) hcl11 hcc11 (show 2 ≤ 2 from by decide) (x' := (⟨(rd_T36 x0_1 x3_1).f0, (rd_T36 x0_1 x3_1).f1⟩ : S36)) (k36_mkM _ _ _ (⟨(rd_T36 x0_1 x3_1).f0, (rd_T36 x0_1 x3_1).f1⟩ : S36) ) (fun _ hk => hk)).1
        rw [← Ny105.out] at HP11
        have HQ11 := Aside0.mk HP11
        clear hcl11 hcc11 hfr11 HP11; (try clear hM11)
        have p9 : 0 ≤ (x3_1 : Int) := odt
        have q9 : (x3_1 : Int) < ((x0_1.length : Int) : Int) := odt
        obtain ⟨ce9, hcl9, hM9, hcc9, hfr9⟩ := Kd.R_elem HQ11.out z36 (x3_1 : Int) p9 q9
        obtain rfl := k36_openM hM9
        have hx9_0 : World.cell? _ ⟨go8, (x3_1 : Int).toNat * 2, none⟩ = some (.int .i64 ((rd_T36 y105 x3_1).f0)) := hcc9 0 _ rfl
        have hx9_1 : World.cell? _ ⟨go8, (x3_1 : Int).toNat * 2 + 1, none⟩ = some (.int .i64 ((rd_T36 y105 x3_1).f1)) := hcc9 1 _ rfl
        have hf9_0 : World.frozen? _ ⟨go8, (x3_1 : Int).toNat * 2, none⟩ = false := hfr9 0
        have hf9_1 : World.frozen? _ ⟨go8, (x3_1 : Int).toNat * 2 + 1, none⟩ = false := hfr9 1
        clear hcl9 hcc9 hfr9; (try clear hM9)
        replace p9 := eq_true p9
        replace q9 := eq_true q9
        obtain ⟨ce12, hcl12, hM12, hcc12, hfr12⟩ := Kd.R_elem HQ11.out z36 (x3_1 : Int) (odt) (by have h_ : (x3_1 : Int) < ((x0_1.length : Int) : Int) := odt; first | exact h_ | (have e_ := (Kd.R_reads' HO_0.out).1; omega) | simpa using h_)
        obtain rfl := k36_openM hM12
        have HP12 := (Kd.R_seg HQ11.out (x3_1 : Int) (odt) (by have h_ : (x3_1 : Int) < ((x0_1.length : Int) : Int) := odt; first | exact h_ | (have e_ := (Kd.R_reads' HO_0.out).1; omega) | simpa using h_) (seg := [.int .i64 ((rd_T36 x0_1 x2_1).f0), .int .i64 ((rd_T36 x0_1 x2_1).f1)]) (j := 0) hcl12 hcc12 (show 2 ≤ 2 from by decide) (x' := (⟨(rd_T36 x0_1 x2_1).f0, (rd_T36 x0_1 x2_1).f1⟩ : S36)) (k36_mkM _ _ _ (⟨(rd_T36 x0_1 x2_1).f0, (rd_T36 x0_1 x2_1).f1⟩ : S36) ) (fun _ hk => hk)).1
        rw [← Ny106.out] at HP12
        have HQ12 := Aside0.mk HP12
        clear hcl12 hcc12 hfr12 HP12; (try clear hM12)
        refine start_ (n := 16) (S := fun w' => w'.cell? ⟨go8, ((x3_1).toNat * 2), none⟩ = some (.int .i64 ((rd_T36 x0_1 x3_1).f0)) ∧ w'.cell? ⟨go8, ((x3_1).toNat * 2) + 1, none⟩ = some (.int .i64 ((rd_T36 x0_1 x3_1).f1)) ∧ w'.cell? ⟨go8, ((x2_1).toNat * 2), none⟩ = some (.int .i64 ((rd_T36 x0_1 x2_1).f0)) ∧ w'.cell? ⟨go8, ((x2_1).toNat * 2) + 1, none⟩ = some (.int .i64 ((rd_T36 x0_1 x2_1).f1))) (ds := [13, 15]) #[false, false, false, false, false, false, false, false, false, false, false, false, false, false, false, false] (by kernel_rfl) rfl rfl ⟨hx103_0, hx103_1, hx104_0, hx104_1⟩ (fun hHeld => ?_); refine with_tabW slices_Reverse_2_int_2_int.tab3 slices_Reverse_2_int_2_int.bits3 (fun HT_ HW_ => ?_)
        generalize wr.drew = w10 at HO_0 HK HB GG8 HQ11 HQ12 hf8_0 hf8_1 hf9_0 hf9_1 hx103_0 hx103_1 hx104_0 hx104_1 hx8_0 hx8_1 hx9_0 hx9_1 hHeld ⊢
        refine pure_ (i := 0) (N := some 14) (v := ?_) (a' := ?_) #[true, false, false, false, false, false, false, false, false, false, false, false, false, false, false, false] rfl rfl (any_of HT_.out (by kernel_rfl)) (fun _ _ _ h => h) (Or.inl ⟨by rfl, ?_⟩) ?_ ?_
        rotate_left
        ·intro w'
         go_simp
         with_reducible rfl
        rotate_left
        ·simp only [Act.put, List.setIfInBounds_toArray, List.set_cons_zero, List.set_cons_succ, i64_w, i32_w]
         rfl
        refine pure_ (i := 1) (N := some 15) (v := ?_) (a' := ?_) #[true, true, false, false, false, false, false, false, false, false, false, false, false, false, false, false] rfl rfl (any_of HT_.out (by kernel_rfl)) (fun _ _ _ h => h) (Or.inl ⟨by rfl, ?_⟩) ?_ ?_
        rotate_left
        ·intro w'
         go_simp
         with_reducible rfl
        rotate_left
        ·simp only [Act.put, List.setIfInBounds_toArray, List.set_cons_zero, List.set_cons_succ, i64_w, i32_w]
         rfl
        refine pure_ (i := 2) (N := some 16) (v := ?_) (a' := ?_) #[true, true, true, false, false, false, false, false, false, false, false, false, false, false, false, false] rfl rfl (any_of HT_.out (by kernel_rfl)) (fun _ _ _ h => h) (Or.inl ⟨by rfl, ?_⟩) ?_ ?_
        rotate_left
        ·intro w'
         go_simp
         with_reducible rfl
        rotate_left
        ·simp only [Act.put, List.setIfInBounds_toArray, List.set_cons_zero, List.set_cons_succ, i64_w, i32_w]
         rfl
        refine pure_ (i := 3) (N := some 17) (v := ?_) (a' := ?_) #[true, true, true, true, false, false, false, false, false, false, false, false, false, false, false, false] rfl rfl (any_of HT_.out (by kernel_rfl)) (fun _ _ _ h => h) (Or.inl ⟨by rfl, ?_⟩) ?_ ?_
        rotate_left
        ·intro w'
         go_simp
         with_reducible rfl
        rotate_left
        ·simp only [Act.put, List.setIfInBounds_toArray, List.set_cons_zero, List.set_cons_succ, i64_w, i32_w]
         rfl
        refine pure_ (i := 4) (N := some 18) (v := ?_) (a' := ?_) #[true, true, true, true, true, false, false, false, false, false, false, false, false, false, false, false] rfl rfl (any_of HT_.out (by kernel_rfl)) (fun _ _ _ h => h) (Or.inl ⟨by rfl, ?_⟩) ?_ ?_
        rotate_left
        ·intro w'
         go_simp
         with_reducible rfl
        rotate_left
        ·simp only [Act.put, List.setIfInBounds_toArray, List.set_cons_zero, List.set_cons_succ, i64_w, i32_w]
         rfl
        refine pure_ (i := 5) (N := some 19) (v := ?_) (a' := ?_) #[true, true, true, true, true, true, false, false, false, false, false, false, false, false, false, false] rfl rfl (any_of HT_.out (by kernel_rfl)) (fun _ _ _ h => h) (Or.inl ⟨by rfl, ?_⟩) ?_ ?_
        rotate_left
        ·intro w'
         go_simp
         with_reducible rfl
        rotate_left
        ·simp only [Act.put, List.setIfInBounds_toArray, List.set_cons_zero, List.set_cons_succ, i64_w, i32_w]
         rfl
        refine pure_ (i := 6) (N := some 20) (v := ?_) (a' := ?_) #[true, true, true, true, true, true, true, false, false, false, false, false, false, false, false, false] rfl rfl (any_of HT_.out (by kernel_rfl)) (fun _ _ _ h => h) (Or.inl ⟨by rfl, ?_⟩) ?_ ?_
        rotate_left
        ·intro w'
         go_simp
         with_reducible rfl
        rotate_left
        ·simp only [Act.put, List.setIfInBounds_toArray, List.set_cons_zero, List.set_cons_succ, i64_w, i32_w]
         rfl
        refine pure_ (i := 8) (N := some 22) (v := ?_) (a' := ?_) #[true, true, true, true, true, true, true, false, true, false, false, false, false, false, false, false] rfl rfl (any_of HT_.out (by kernel_rfl)) (fun _ _ _ h => h) (Or.inl ⟨by rfl, ?_⟩) ?_ ?_
        rotate_left
        ·intro w'
         go_simp
         with_reducible rfl
        rotate_left
        ·simp only [Act.put, List.setIfInBounds_toArray, List.set_cons_zero, List.set_cons_succ, i64_w, i32_w]
         rfl
        refine pure_ (i := 9) (N := some 23) (v := ?_) (a' := ?_) #[true, true, true, true, true, true, true, false, true, true, false, false, false, false, false, false] rfl rfl (any_of HT_.out (by kernel_rfl)) (fun _ _ _ h => h) (Or.inl ⟨by rfl, ?_⟩) ?_ ?_
        rotate_left
        ·intro w'
         go_simp
         with_reducible rfl
        rotate_left
        ·simp only [Act.put, List.setIfInBounds_toArray, List.set_cons_zero, List.set_cons_succ, i64_w, i32_w]
         rfl
        refine pure_ (i := 10) (N := some 24) (v := ?_) (a' := ?_) #[true, true, true, true, true, true, true, false, true, true, true, false, false, false, false, false] rfl rfl (any_of HT_.out (by kernel_rfl)) (fun _ _ _ h => h) (Or.inl ⟨by rfl, ?_⟩) ?_ ?_
        rotate_left
        ·intro w'
         go_simp
         with_reducible rfl
        rotate_left
        ·simp only [Act.put, List.setIfInBounds_toArray, List.set_cons_zero, List.set_cons_succ, i64_w, i32_w]
         rfl
        refine take_ (i := 7) (N := some 21) (v := ?_) (a' := ?_) #[true, true, true, true, true, true, true, true, true, true, true, false, false, false, false, false] rfl rfl (take_ofW HT_.out HW_.out (by kernel_rfl)) (fun _ _ _ h => h) (Or.inl ⟨by rfl, ?_⟩) hHeld ?_ ?_
        rotate_left
        ·rintro w' ⟨s0, s1, s2, s3⟩
         go_simp
         with_reducible rfl
        rotate_left
        ·simp only [Act.put, List.setIfInBounds_toArray, List.set_cons_zero, List.set_cons_succ, i64_w, i32_w]
         rfl
        refine take_ (i := 11) (N := some 25) (v := ?_) (a' := ?_) #[true, true, true, true, true, true, true, true, true, true, true, true, false, false, false, false] rfl rfl (take_ofW HT_.out HW_.out (by kernel_rfl)) (fun _ _ _ h => h) (Or.inl ⟨by rfl, ?_⟩) hHeld ?_ ?_
        rotate_left
        ·rintro w' ⟨s0, s1, s2, s3⟩
         go_simp
         with_reducible rfl
        rotate_left
        ·simp only [Act.put, List.setIfInBounds_toArray, List.set_cons_zero, List.set_cons_succ, i64_w, i32_w]
         rfl
        refine pure_ (i := 12) (N := some 26) (v := ?_) (a' := ?_) #[true, true, true, true, true, true, true, true, true, true, true, true, true, false, false, false] rfl rfl (any_of HT_.out (by kernel_rfl)) (fun _ _ _ h => h) (Or.inl ⟨by rfl, ?_⟩) ?_ ?_
        rotate_left
        ·intro w'
         go_simp
         with_reducible rfl
        rotate_left
        ·simp only [Act.put, List.setIfInBounds_toArray, List.set_cons_zero, List.set_cons_succ, i64_w, i32_w]
         rfl
        obtain ⟨w11, hw11⟩ : ∃ w11, w11 = w10.setCells go8 (x2_1.toNat * k36.sz + 0) [.int .i64 (rd_T36 x0_1 x3_1).f0, .int .i64 (rd_T36 x0_1 x3_1).f1] := ⟨_, rfl⟩
        rw [← hw11] at HQ11 HQ12 hf9_0 hf9_1 hx9_0 hx9_1
        refine last_ (i := 13) (N := none) #[true, true, true, true, true, true, true, true, true, true, true, true, true, true, false, false] rfl rfl (one_of HT_.out (by kernel_rfl)) (by decide) (fun K hK => ?_)
        refine skip_ (w1 := w11) (by rfl) rfl ?_ ?_
        ·go_simp
         rfl
        refine hK.out _ _ ?_
        clear hK K
        have n0_ := Aside0.mk (show Kept w w11 (fun k_ => P0_ k_) from by rw [hw11]; exact Kept.setCell (p := ⟨go8, _, none⟩) (Kept.setCell (p := ⟨go8, _, none⟩) HK.out HMgo8.out _) HMgo8.out _)
        have n1_ := Aside0.mk (show Below w0.heap.size w0 w11 from by rw [hw11]; exact (HB.out.setCell (p := ⟨go8, _, none⟩) GB8.out _).setCell (p := ⟨go8, _, none⟩) GB8.out _)
        clear HK HB hw11
        have HK := n0_
        have HB := n1_
        clear n0_ n1_
        refine pure_ (i := 14) (N := some 27) (v := ?_) (a' := ?_) #[true, true, true, true, true, true, true, true, true, true, true, true, true, true, true, false] rfl rfl (any_of HT_.out (by kernel_rfl)) (fun _ _ _ h => h) (Or.inl ⟨by rfl, ?_⟩) ?_ ?_
        rotate_left
        ·intro w'
         go_simp
         with_reducible rfl
        rotate_left
        ·simp only [Act.put, List.setIfInBounds_toArray, List.set_cons_zero, List.set_cons_succ, i64_w, i32_w]
         rfl
        refine last_ (i := 15) (N := none) #[true, true, true, true, true, true, true, true, true, true, true, true, true, true, true, true] rfl rfl (one_of HT_.out (by kernel_rfl)) (by decide) (fun K hK => ?_)
        refine skip_ (w1 := ?_) (by rfl) rfl ?_ ?_
        rotate_left
        ·go_simp
         rfl
        refine hK.out _ _ ?_
        clear hK K
        refine done_ (done_of HT_.out (by kernel_rfl)) ?_
        try go_wp2
        (try simp only [← hl0_1])
        go_roundg k1
        case measure => have := HK1.out; omega
        case rel => exact ⟨(y106), (wrap64 (x2_1 + 1)), (wrap64 (x3_1 - 1)), (by first | rfl | (simp; done) | (simp [*]; done)), (by first | rfl | (simp; done) | (simp [*]; done)), H', ⟨by have := HK1.out; omega⟩, ⟨by (try simp only [hl0_1]); (with_reducible repeat (first | apply Kd.R_alloc | apply Kd.R_drewN | apply Kd.R_drew)); exact HQ12.out⟩, ⟨by repeat (first | (with_reducible first | exact HK.out | apply Kept.alloc | apply Kept.drewN | apply Kept.drew | refine Kept.setCell ?_ HMgo8.out _ | refine Kept.setCell ?_ HMgo8.out _ | refine Kept.setCell ?_ HMgo8.out _ | refine Kept.setCell ?_ HMgo8.out _) | exact HK.out)⟩, ⟨by repeat (first | (with_reducible first | exact HB.out | apply below_alloc | apply pw_below_drewN | apply below_drew1 | refine below_set ?_ GB8.out | refine below_set ?_ GB8.out | refine below_set ?_ GB8.out | refine below_set ?_ GB8.out) | exact HB.out)⟩⟩
       ·rw [if_neg c7] at H
        exact absurd H (by simp)
      ·rw [if_neg c6] at H
       exact absurd H (by simp)
     ·rw [if_neg c5] at H
      exact absurd H (by simp)
    ·rw [if_neg c4] at H
     exact absurd H (by simp)
   ·rw [if_neg c3] at H
    have c3b0 : decide (x2_1 < x3_1) = false := decide_eq_false c3
    clear c3
    obtain rfl := Option.some.inj H
    go_wp2
    first | go_end0 | ((try simp only [Exit.inBlock, Exit.then]); refine bodyPost_ret (results_none rfl _ _ _) rfl ?_)
    exact ⟨by first | rfl | (simp [errW_none, errW_some] <;> rfl) | (simp [*, errW_none, errW_some] <;> rfl), (by first | exact (by (with_reducible repeat (first | apply Kd.R_alloc | apply Kd.R_drewN | apply Kd.R_drew)); exact HO_0.out) | (simp only [hl0_1]; exact (by (with_reducible repeat (first | apply Kd.R_alloc | apply Kd.R_drewN | apply Kd.R_drew)); exact HO_0.out))), by repeat (first | (with_reducible first | exact HB.out | apply below_alloc | apply pw_below_drewN | apply below_drew1) | exact HB.out), by repeat (first | (with_reducible first | exact HK.out | apply Kept.alloc | apply Kept.drewN | apply Kept.drew) | exact HK.out)⟩



end Go.Proofs.Ytpicbjcpdngmlaa.G
