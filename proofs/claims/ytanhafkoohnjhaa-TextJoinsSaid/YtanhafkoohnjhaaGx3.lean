/- Contracts of the functions of this seat: what each call computes, as a plain Lean function. Made by this session's own generator. -/
import Derived.Test.YtanhafkoohnjhaaGx0
import Derived.Test.YtanhafkoohnjhaaGx1
import Derived.Test.YtanhafkoohnjhaaGx2
namespace Go.Proofs.Ytanhafkoohnjhaa.G
open Go.RowKit Go.Proofs.YtanhafkoohnjhaaMy Go.Proofs.YtanhafkoohnjhaaW.PrintWords Go.Proofs.YtanhafkoohnjhaaW.PrintLast Go.Proofs.YtanhafkoohnjhaaW.PrintMore
attribute [local go_sem] max2_int min2_int max_two min_two max_three min_three max_four min_four   -- for this text's walks alone
set_option linter.unusedVariables false
set_option linter.unusedSimpArgs false

/-! ### text_Read: function 11 -/
-- by hand
attribute [local go_sem] Oper.semAt_some
def text_Read.st (p : List Int) : text_reader_take.St := p.foldl text_reader_take.next ⟨[], [], false, false⟩
theorem text_Read.st_len (xs : List Int) : ∀ s, (xs.foldl text_reader_take.next s).codes.length ≤ s.codes.length + xs.length ∧ (xs.foldl text_reader_take.next s).soft.length ≤ s.soft.length + xs.length := by
 induction xs with
 | nil => intro s; simp
 | cons x xs ih =>
  intro s
  rw [List.foldl_cons, List.length_cons]
  have h1 := ih (text_reader_take.next s x)
  have h2 : (text_reader_take.next s x).codes.length ≤ s.codes.length + 1 ∧ (text_reader_take.next s x).soft.length ≤ s.soft.length + 1 := by
   unfold text_reader_take.next
   split
   ·simp
   ·split
    ·simp
    ·simp
  omega
def text_Read.fail (out : Nat) (s : text_reader_take.St) : Bool := s.half || (s.bad || decide (100 < out))
/-- The words that are read, or none where the text is none. -/
def text_Read.run : List (List Int) → List S36 → Option (List S36)
 | [], out => some out
 | p :: ps, out => if text_Read.fail out.length (text_Read.st p) = true then none else text_Read.run ps (out ++ [⟨(text_Read.st p).codes, (text_Read.st p).soft⟩])
def text_Read.f (k : Nat) (l0 : List Int) : Option (List S36 × Int) :=
 if l0.length < 1000000000000 then
  match text_Read.run (text_words_2.all l0) [] with
  | none => some ([], 130)
  | some out => (text_Check.f k out).bind fun b => if b = true then some (out, 0) else some ([], 130)
 else none
theorem text_Read.mono : ∀ l0 k, LeO (text_Read.f k l0) (text_Read.f (k + 1) l0) := by
 intro l0 k
 unfold text_Read.f
 refine LeO.ite ?_ (LeO.none _)
 split
 ·exact LeO.refl _
 ·exact LeO.bind (text_Check.mono _ _) (fun _ => LeO.refl _)
/-- What has been read when pre has come and nothing was wrong. -/
def text_Read.outs (pre : List (List Int)) : List S36 := pre.map fun p => ⟨(text_Read.st p).codes, (text_Read.st p).soft⟩
def text_Read.good : List (List Int) → Nat → Bool
 | [], _ => true
 | p :: ps, n => !text_Read.fail n (text_Read.st p) && text_Read.good ps (n + 1)
theorem text_Read.run_app (pre ps : List (List Int)) : ∀ out, text_Read.good pre out.length = true → text_Read.run (pre ++ ps) out = text_Read.run ps (out ++ text_Read.outs pre) := by
 induction pre with
 | nil => intro out _; simp [text_Read.outs]
 | cons p pre ih =>
  intro out h
  simp only [text_Read.good, Bool.and_eq_true, Bool.not_eq_true'] at h
  rw [List.cons_append, text_Read.run, if_neg (by rw [h.1]; decide), ih _ (by simpa using h.2)]
  simp [text_Read.outs]
theorem text_Read.good_snoc (pre : List (List Int)) (p : List Int) : ∀ n, text_Read.good (pre ++ [p]) n = (text_Read.good pre n && !text_Read.fail (n + pre.length) (text_Read.st p)) := by
 induction pre with
 | nil => intro n; simp [text_Read.good]
 | cons q pre ih =>
  intro n
  rw [List.cons_append, text_Read.good, ih, text_Read.good, Bool.and_assoc, List.length_cons, show n + 1 + pre.length = n + (pre.length + 1) by omega]
abbrev text_Read.okR (Bt Bg ga gb gc : Nat) (k : Nat) : Prop := k ≠ Bt ∧ k ≠ Bg ∧ k ≠ ga ∧ k ≠ gb ∧ k ≠ gc
/-- Between two rounds: out holds what has come so far; the results' cells are as they were laid. -/
def text_Read.Inv (w : World) (Bt Bg ga gb gc : Nat) (pre : List (text_words_2.Piece w)) (W : World) : Prop :=
 (∃ v, W.heap[gc]? = some (.cells #[v] 24 (0, 0)) ∧ Kd.S k36 36 W w.heap.size (text_Read.okR Bt Bg ga gb gc) v (text_Read.outs (pre.map (·.xs)))) ∧ W.heap[ga]? = some (.cells #[.slice none 0 0] 24 (0, 0)) ∧ W.heap[gb]? = some (.cells #[.int .i64 0] 25 (0, 0)) ∧ Below w.heap.size w W ∧ text_Read.good (pre.map (·.xs)) 0 = true
def text_Read.Out (w : World) (ga gb : Nat) (c : Code) (pre : List (text_words_2.Piece w)) (W : World) : Prop :=
 W.heap[ga]? = some (.cells #[.slice none 0 0] 24 (0, 0)) ∧ W.heap[gb]? = some (.cells #[.int .i64 130] 25 (0, 0)) ∧ Below w.heap.size w W ∧ c = .ret ∧ ∃ pre' p, pre = pre' ++ [p] ∧ text_Read.good (pre'.map (·.xs)) 0 = true ∧ text_Read.fail pre'.length (text_Read.st p.xs) = true
theorem text_Read.cells_turn {W W' : World} {row : Option Nat} {g : Nat} {cs : Array Value} {t : TypeId} (h : W.heap[g]? = some (.cells cs t (0, 0))) (hg : W.grownBy W' row) (hr : ∀ r, row = some r → ∃ o : Obj, W.heap[r]? = some o ∧ o.isCells = false) : W'.heap[g]? = some (.cells cs t (0, 0)) :=
 (hg.block g (Array.getElem?_eq_some_iff.1 h).1 (fun e => by
  obtain ⟨o, ho, hn⟩ := hr g e.symm
  rw [h] at ho
  obtain rfl := Option.some.inj ho
  cases hn)).trans h
theorem text_Read.cells_at {W W' : World} {g B : Nat} {cs : Array Value} {t : TypeId} (h : W.heap[g]? = some (.cells cs t (0, 0))) (hg : W.grownBy W' (some B)) (hne : g ≠ B) : W'.heap[g]? = some (.cells cs t (0, 0)) :=
 (hg.block g (Array.getElem?_eq_some_iff.1 h).1 (fun e => hne (Option.some.inj e))).trans h
theorem text_Read.inv_own (w : World) (Bt Bg ga gb gc B : Nat) (hB : w.heap.size ≤ B) : OwnFrom B (text_Read.Inv w Bt Bg ga gb gc) := by
 rintro pre X Y row ⟨⟨v, h1, h2⟩, h3, h4, h5, h6⟩ hg hr
 have hr' : ∀ r, row = some r → ∃ o : Obj, X.heap[r]? = some o ∧ o.isCells = false := fun r e => (hr r e).2
 exact ⟨⟨v, text_Read.cells_turn h1 hg hr', S_turn h2 hg hr'⟩, text_Read.cells_turn h3 hg hr', text_Read.cells_turn h4 hg hr', h5.grown hg h5.size (fun k e => Nat.le_trans hB (hr k e).1), h6⟩
theorem text_Read.out_own (w : World) (ga gb B : Nat) (hB : w.heap.size ≤ B) (c : Code) : OwnFrom B (text_Read.Out w ga gb c) := by
 rintro pre X Y row ⟨h3, h4, h5, h6⟩ hg hr
 have hr' : ∀ r, row = some r → ∃ o : Obj, X.heap[r]? = some o ∧ o.isCells = false := fun r e => (hr r e).2
 exact ⟨text_Read.cells_turn h3 hg hr', text_Read.cells_turn h4 hg hr', h5.grown hg h5.size (fun k e => Nat.le_trans hB (hr k e).1), h6⟩
theorem text_Read.inv_at (w : World) (Bt Bg ga gb gc : Nat) (hB : w.heap.size ≤ Bt) (ha : ga ≠ Bt) (hb : gb ≠ Bt) (hc : gc ≠ Bt) : AbidesAt Bt (text_Read.Inv w Bt Bg ga gb gc) := by
 rintro pre X Y ⟨⟨v, h1, h2⟩, h3, h4, h5, h6⟩ hg
 exact ⟨⟨v, text_Read.cells_at h1 hg hc, Kd.S_grown h2 hg (fun k hk e => hk.1 (Option.some.inj e))⟩, text_Read.cells_at h3 hg ha, text_Read.cells_at h4 hg hb, h5.grown hg h5.size (fun k e => by cases e; exact hB), h6⟩
theorem text_Read.out_at (w : World) (ga gb Bt : Nat) (hB : w.heap.size ≤ Bt) (ha : ga ≠ Bt) (hb : gb ≠ Bt) (c : Code) : AbidesAt Bt (text_Read.Out w ga gb c) := by
 rintro pre X Y ⟨h3, h4, h5, h6⟩ hg
 exact ⟨text_Read.cells_at h3 hg ha, text_Read.cells_at h4 hg hb, h5.grown hg h5.size (fun k e => by cases e; exact hB), h6⟩
set_option maxHeartbeats 4000000 in
set_option maxRecDepth 100000 in
theorem text_Read.calls (k : Nat) (A0 : Option Addr) (c0 : Nat) (l0 : List Int) (r1 : List S36) (r2 : Int) (w : World) (hr0 : Kd.C (Kd.int .u8) w A0 l0.length l0) (hc0 : l0.length ≤ c0) (h : text_Read.f k l0 = some (r1, r2)) :
  Calls Try.prog 11 #[.slice A0 l0.length c0] w fun e w' => ∃ v0_ : Value, e = .returned (.tuple #[v0_, .int .i64 r2]) ∧ Kd.S k36 36 w' w.heap.size (fun _ => True) v0_ r1 ∧ Below w.heap.size w w' := by
 unfold text_Read.f at h
 split at h
 case isFalse => cases h
 rename_i hl
 have HR := Aside0.mk hr0
 have HC := Aside0.mk hc0
 have HL := Aside0.mk hl
 have HH := Aside0.mk h
 have HB := Aside0.mk (Below.refl w.heap.size w)
 clear hr0 hc0 hl h
 refine (callsIn_wide (n := 8)).1 ?_
 refine callsIn_of_wp_marks Try.func11 rfl trivial ?_ rfl
 simp only [Try.ntmps11, List.size_toArray, List.length_cons, List.length_nil, Nat.reduceAdd, Nat.reduceSub, Array.replicate_succ, Array.replicate_zero, List.push_toArray, List.append_toArray, List.nil_append, List.cons_append]
 refine wpIn_wide.2 ?_
 go_wp2_with (first | ((with_reducible refine gate_dst (N := 2) rfl ?_); refine box_event ?hg (N := 2) ?hd (cs := #[.slice none 0 0]) (t := 24) ?hr ?_; (case hd => rfl); (case hg => rfl); (case hr => first | (go_simp; done) | (go_simp; rfl)); intro ga hg wa hbox hb; have GEga := Aside0.mk (show w.heap.size ≤ ga from hg ▸ below_size (by repeat (first | (with_reducible first | exact HB.out | apply below_alloc | apply pw_below_drewN | apply below_drew1) | exact HB.out))); have n0_ := Aside0.mk (below_step (by repeat (first | (with_reducible first | exact HB.out | apply below_alloc | apply pw_below_drewN | apply below_drew1) | exact HB.out)) hb); have BKga := Aside0.mk hbox; have hxga := blk_cell hbox; have hyga := blk_frozen hbox; clear HB; have HB := n0_; clear n0_ hb hbox hg) | ((with_reducible refine gate_dst (N := 3) rfl ?_); refine box_event ?hg (N := 3) ?hd (cs := #[.int .i64 0]) (t := 25) ?hr ?_; (case hd => rfl); (case hg => rfl); (case hr => first | (go_simp; done) | (go_simp; rfl)); intro gb hg wb hbox hb; have NBgb_ga := Aside0.mk (show gb ≠ ga from by have z_ := (Array.getElem?_eq_some_iff.1 BKga.out).1; omega); have NBga_gb := Aside0.mk (Ne.symm NBgb_ga.out); have GEgb := Aside0.mk (show w.heap.size ≤ gb from hg ▸ below_size (by repeat (first | (with_reducible first | exact HB.out | apply below_alloc | apply pw_below_drewN | apply below_drew1) | exact HB.out))); have n0_ := Aside0.mk (below_step (by repeat (first | (with_reducible first | exact HB.out | apply below_alloc | apply pw_below_drewN | apply below_drew1) | exact HB.out)) hb); have BKgb := Aside0.mk hbox; have hxgb := blk_cell hbox; have hygb := blk_frozen hbox; have zga := Aside0.mk (blk_below BKga.out hb); clear BKga hxga hyga; have BKga := zga; clear zga; have hxga := blk_cell BKga.out; have hyga := blk_frozen BKga.out; clear HB; have HB := n0_; clear n0_ hb hbox hg) | ((with_reducible refine gate_dst (N := 4) rfl ?_); refine box_event ?hg (N := 4) ?hd (cs := #[.slice none 0 0]) (t := 24) ?hr ?_; (case hd => rfl); (case hg => rfl); (case hr => first | (go_simp; done) | (go_simp; rfl)); intro gc hg wc hbox hb; have NBgc_ga := Aside0.mk (show gc ≠ ga from by have z_ := (Array.getElem?_eq_some_iff.1 BKga.out).1; omega); have NBga_gc := Aside0.mk (Ne.symm NBgc_ga.out); have NBgc_gb := Aside0.mk (show gc ≠ gb from by have z_ := (Array.getElem?_eq_some_iff.1 BKgb.out).1; omega); have NBgb_gc := Aside0.mk (Ne.symm NBgc_gb.out); have GEgc := Aside0.mk (show w.heap.size ≤ gc from hg ▸ below_size (by repeat (first | (with_reducible first | exact HB.out | apply below_alloc | apply pw_below_drewN | apply below_drew1) | exact HB.out))); have n0_ := Aside0.mk (below_step (by repeat (first | (with_reducible first | exact HB.out | apply below_alloc | apply pw_below_drewN | apply below_drew1) | exact HB.out)) hb); have BKgc := Aside0.mk hbox; have hxgc := blk_cell hbox; have hygc := blk_frozen hbox; have zga := Aside0.mk (blk_below BKga.out hb); clear BKga hxga hyga; have BKga := zga; clear zga; have hxga := blk_cell BKga.out; have hyga := blk_frozen BKga.out; have zgb := Aside0.mk (blk_below BKgb.out hb); clear BKgb hxgb hygb; have BKgb := zgb; clear zgb; have hxgb := blk_cell BKgb.out; have hygb := blk_frozen BKgb.out; clear HB; have HB := n0_; clear n0_ hb hbox hg) | (go_at_call 20; (with_reducible refine (text_words.calls A0 l0.length c0 _).mono ?_); rintro e wd ⟨rfl, rfl⟩))
 obtain ⟨Bt, hBt⟩ : ∃ Bt, Bt = wc.heap.size := ⟨_, rfl⟩
 obtain ⟨W0, hW0⟩ : ∃ W0, W0 = (wc.alloc (.cells #[.slice A0 l0.length c0] 22)).alloc (.cells #[.func (.func 27) #[] #[]] 46) := ⟨_, rfl⟩
 have hb0 : Below wc.heap.size wc W0 := by rw [hW0]; exact ((Below.refl _ wc).alloc (Nat.le_refl _) _).alloc (by simp) _
 have hT : W0.heap[Bt]? = some (.cells #[.slice A0 l0.length c0] 22 (0, 0)) := by rw [hW0, hBt]; exact (Below.heap_alloc _ _ _ (by simp)).trans (World.alloc_heap_new wc _)
 have hG : W0.heap[Bt + 1]? = some (.cells #[.func (.func 27) #[] #[]] 46 (0, 0)) := by
  rw [hW0, hBt]
  have := World.alloc_heap_new (wc.alloc (.cells #[.slice A0 l0.length c0] 22)) (.cells #[.func (.func 27) #[] #[]] 46)
  rwa [World.size_alloc] at this
 have hz0 : W0.heap.size = Bt + 2 := by rw [hW0, hBt]; simp
 have ha0 : ga < Bt := by rw [hBt]; exact (Array.getElem?_eq_some_iff.1 BKga.out).1
 have hb1 : gb < Bt := by rw [hBt]; exact (Array.getElem?_eq_some_iff.1 BKgb.out).1
 have hc1 : gc < Bt := by rw [hBt]; exact (Array.getElem?_eq_some_iff.1 BKgc.out).1
 have hwB : w.heap.size ≤ Bt := by rw [hBt]; exact HB.out.size
 have HB0 := Aside0.mk (below_step HB.out hb0)
 have KA := Aside0.mk (blk_below BKga.out hb0)
 have KB := Aside0.mk (blk_below BKgb.out hb0)
 have KC := Aside0.mk (blk_below BKgc.out hb0)
 rw [← hBt, ← hW0]
 have HT := Aside0.mk hT
 have HG := Aside0.mk hG
 have HA1 := Aside0.mk (show ga < Bt ∧ gb < Bt ∧ gc < Bt ∧ w.heap.size ≤ Bt ∧ W0.heap.size = Bt + 2 from ⟨ha0, hb1, hc1, hwB, hz0⟩)
 clear hT hG ha0 hb1 hc1 hwB hz0 hW0 hBt hb0 BKga BKgb BKgc hxga hyga hxgb hygb hxgc hygc HB
 refine (wpIn_wide (n := 8)).1 ?_
 refine wpIn_rangeFunc_ownB rfl (by decide) (gf := 28) (lb := #[.pointer (some ⟨Bt, 0, none⟩), .pointer (some ⟨Bt + 1, 0, none⟩)]) rfl trivial (enters_of Try.func28 (by kernel_rfl) rfl)
  (text_words_2.stops A0 c0 l0 _ Bt (Bt + 1) w W0 HR.out HC.out HL.out HB0.out (by omega) HT.out HG.out HA1.out.2.2.2.1) (by have := HA1.out; omega)
  (fun h k => ⟨h.1.trans k.1, k.2.1.trans h.2.1, k.2.2.trans h.2.2⟩)
  (fun W l o o' hl hh hc hw => ⟨belowK_b (w := W0) HB0.out.size W l o o' hl hh hc hw, World.putObj_heap_other (by have := HA1.out; omega), World.putObj_heap_other (by have := HA1.out; omega)⟩)
  (Below.refl _ _) (fun _ => rfl)
  (text_Read.Inv w Bt (Bt + 1) ga gb gc) (text_Read.Out w ga gb) (text_Read.inv_own _ _ _ _ _ _ _ HB0.out.size) (text_Read.out_own _ _ _ _ HB0.out.size)
  (text_Read.inv_at _ _ _ _ _ _ HA1.out.2.2.2.1 (by have := HA1.out; omega) (by have := HA1.out; omega) (by have := HA1.out; omega)) (text_Read.out_at _ _ _ _ HA1.out.2.2.2.1 (by have := HA1.out; omega) (by have := HA1.out; omega))
  ⟨⟨_, KC.out, Kd.S_nil _ _ _ _ _⟩, KA.out, KB.out, HB0.out, rfl⟩
  (fun x a' W => a' = { tmps := #[.slice A0 l0.length c0, undef, .pointer (some ⟨ga, 0, none⟩), .pointer (some ⟨gb, 0, none⟩), .pointer (some ⟨gc, 0, none⟩), .slice x.A x.xs.length x.c, undef, undef, undef, undef, .slice A0 l0.length c0, .func (.func 28) #[] #[.pointer (some ⟨Bt, 0, none⟩), .pointer (some ⟨Bt + 1, 0, none⟩)], .slice x.A x.xs.length x.c, undef, undef, undef, undef, undef, undef, undef, undef, undef, undef, undef, undef, undef, undef, undef, undef, undef, undef, undef, undef, undef, undef, undef, undef, undef, undef, undef, undef, undef, undef, undef, undef, undef, undef, undef, undef, undef, undef, undef, undef], defers := [] })
  (fun x a' s X Y row hs hg hr => hs)
  ?assign ?body ?done ?stop
 case assign =>
  rintro l pre x W K hi hK
  dsimp only [text_words_2.encs]
  gi_wp2
  exact hK _ _ (KeepsFrom.refl _ _) ⟨Below.refl _ _, rfl, rfl⟩ hi rfl
 case body =>
  rintro l pre x a' W hl ⟨r, hr⟩ ⟨⟨v, h1, h2⟩, h3, h4, h5, h6⟩ rfl hlt
  obtain ⟨A, c, e⟩ := Kd.S_slice h2
  subst e
  obtain ⟨Ax, cx, xs, hCx, hcx, hlx⟩ := x
  have H1 := Aside0.mk h1
  have H2 := Aside0.mk h2
  have H3 := Aside0.mk h3
  have H4 := Aside0.mk h4
  have H5 := Aside0.mk h5
  have H6 := Aside0.mk h6
  have HLT := Aside0.mk hlt
  have HCX := Aside0.mk hCx
  have HWS := Aside0.mk (Nat.le_trans hl (Nat.le_of_lt (Array.getElem?_eq_some_iff.1 hr).1))
  clear h1 h2 h3 h4 h5 h6 hlt hr KA KB KC HH HT HG
  dsimp only
  gi_wp2
  obtain ⟨gr, hgr⟩ : ∃ gr, gr = W.heap.size := ⟨_, rfl⟩
  obtain ⟨W1, hW1⟩ : ∃ W1, W1 = W.alloc (.cells #[.slice none 0 0, .slice none 0 0, .bool false, .bool false] 44) := ⟨_, rfl⟩
  have hg1 : W1.heap[gr]? = some (.cells #[.slice none 0 0, .slice none 0 0, .bool false, .bool false] 44 (0, 0)) := by rw [hW1, hgr]; exact World.alloc_heap_new W _
  have hB1 : Below gr W W1 := by rw [hW1, hgr]; exact (Below.refl _ W).alloc (Nat.le_refl _) _
  rw [← hW1, ← hgr]
  have HGR := Aside0.mk hgr
  have HZ1 := Aside0.mk (show gr ≤ W1.heap.size from by rw [hW1, hgr]; simp)
  have HS0 := Aside0.mk (show text_reader_take.Holds W1 gr gr ⟨[], [], false, false⟩ from ⟨_, _, hg1, Nat.le_refl _, Kd.R_nil _ _ _ _ _, Kd.R_nil _ _ _ _ _, fun k hk => by simp [Value.ownBlock] at hk⟩)
  have HB1 := Aside0.mk hB1
  clear hg1 hB1 hW1 hgr
  gi_loopw [9, 19] (fun _ v19 wr => ∃ i : Nat, i ≤ xs.length ∧ v19 = .int .i64 i ∧ Aside0 (text_reader_take.Holds wr gr gr ((xs.take i).foldl text_reader_take.next ⟨[], [], false, false⟩)) ∧ Aside0 (Below gr W wr)) (fun _ v19 _ => xs.length - (intOf v19).toNat)
  case atStart => exact ⟨0, Nat.zero_le _, rfl, HS0, HB1⟩
  case round =>
   clear HS0 HB1 HZ1
   obtain ⟨i, hi, rfl, HS, HBr⟩ := hrel
   by_cases hlt : i < xs.length
   ·have hltz : (i : Int) < (xs.length : Int) := by omega
    have hm : xs.length ≤ 9223372036854775807 := HCX.out.2.1
    have hlen := text_Read.st_len (xs.take i) ⟨[], [], false, false⟩
    simp only [List.length_nil, Nat.zero_add, List.length_take] at hlen
    have HW5 := Aside0.mk (H5.out.trans (HBr.out.mono (by rw [HGR.out]; exact H5.out.size)))
    obtain ⟨ad, cc, rfl, hcl, hK, hcc⟩ := C_elem (Kd.C_below HCX.out HW5.out) i hlt
    obtain rfl : cc = [.int .u8 xs[i]] := hK
    have hcell : wr.cell? (ad.add i) = some (.int .u8 xs[i]) := by simpa [Kd.int, Kd.scalar] using hcc 0 _ rfl
    have HT := Aside0.mk (text_reader_take.calls xs[i] _ gr gr wr (by have := HBr.out.size; have := HGR.out; omega) HS.out (by omega) (by omega))
    have HN := Aside0.mk (show (xs.take (i + 1)).foldl text_reader_take.next ⟨[], [], false, false⟩ = text_reader_take.next ((xs.take i).foldl text_reader_take.next ⟨[], [], false, false⟩) xs[i] from by rw [List.take_succ_eq_append_getElem hlt, List.foldl_append]; rfl)
    clear hcl hcc hlen
    gi_wp2
    refine ⟨trivial, ?_⟩
    (with_reducible refine (callsIn_open (open_in open_wide l) HT.out).mono ?_)
    rintro e w2 ⟨rfl, hh, hb⟩
    gi_wp2
    go_roundw
    case rel => exact ⟨i + 1, by omega, by go_num, ⟨by rw [HN.out]; exact hh⟩, ⟨HBr.out.trans hb⟩⟩
    case measure => simp [intOf]; omega
   ·obtain rfl : i = xs.length := by omega
    have hge : decide ((xs.length : Int) < (xs.length : Int)) = false := decide_eq_false (by omega)
    rw [List.take_length] at HS
    obtain ⟨v0, v1, hg, _, hr0, hr1, hne⟩ := HS.out
    obtain ⟨Aa, ca, ea⟩ := Kd.R_slice hr0
    obtain ⟨Ab, cb, eb⟩ := Kd.R_slice hr1
    subst ea eb
    have hW : gr = W.heap.size := HGR.out
    have hBW : Below W.heap.size W wr := by rw [← hW]; exact HBr.out
    have k1 := blk_below H1.out hBW
    have k3 := blk_below H3.out hBW
    have k4 := blk_below H4.out hBW
    have K1 := Aside0.mk k1
    have K2 := Aside0.mk (Kd.S_below H2.out hBW)
    have K3 := Aside0.mk k3
    have K4 := Aside0.mk k4
    have K5 := Aside0.mk (H5.out.trans (hBW.mono H5.out.size))
    have KG := Aside0.mk hg
    have Kr0 := Aside0.mk hr0
    have Kr1 := Aside0.mk hr1
    have Kne := Aside0.mk hne
    have KW := Aside0.mk hBW
    have hg2 : wr.cell? ⟨gr, 2, none⟩ = some (.bool (text_Read.st xs).half) := (blk_cell hg 2).trans rfl
    have hg3 : wr.cell? ⟨gr, 3, none⟩ = some (.bool (text_Read.st xs).bad) := (blk_cell hg 3).trans rfl
    have hgo := blk_cell k1 0
    have hxa := blk_cell k3 0
    have hfa := blk_frozen k3
    have hxb := blk_cell k4 0
    have hfb := blk_frozen k4
    have hn1 := NBga_gb.out
    have hn2 := NBgb_ga.out
    clear hg hr0 hr1 hne k1 k3 k4 hBW hW HS HBr
    cases hh : (text_Read.st xs).half with
    | true =>
     rw [hh] at hg2
     have hF : text_Read.fail pre.length (text_Read.st xs) = true := by unfold text_Read.fail; rw [hh]; rfl
     gi_wp2
     show KeepsFrom _ _ _ ∧ _
     have p1 : (wr.setCell ⟨ga, 0, none⟩ (.slice none 0 0)).heap[ga]? = some (.cells #[.slice none 0 0] 24 (0, 0)) := by have := blk_put (cs' := #[.slice none 0 0]) K3.out 0 (.slice none 0 0) rfl; exact this
     have p2 : (wr.setCell ⟨ga, 0, none⟩ (.slice none 0 0)).heap[gb]? = some (.cells #[.int .i64 0] 25 (0, 0)) := (Below.heap_setCell wr ⟨ga, 0, none⟩ _ gb NBgb_ga.out).trans K4.out
     have p3 := (Below.heap_setCell (wr.setCell ⟨ga, 0, none⟩ (.slice none 0 0)) ⟨gb, 0, none⟩ (.int .i64 130) ga NBga_gb.out).trans p1
     have p4 : ((wr.setCell ⟨ga, 0, none⟩ (.slice none 0 0)).setCell ⟨gb, 0, none⟩ (.int .i64 130)).heap[gb]? = some (.cells #[.int .i64 130] 25 (0, 0)) := by have := blk_put (cs' := #[.int .i64 130]) p2 0 (.int .i64 130) rfl; exact this
     exact ⟨((keeps_of_below KW.out).from _).trans (((KeepsOthers.setCell _ _ _).from _).trans ((KeepsOthers.setCell _ _ _).from _)), p3, p4, (K5.out.setCell (p := ⟨ga, 0, none⟩) GEga.out _).setCell (p := ⟨gb, 0, none⟩) GEgb.out _, rfl, pre, _, rfl, H6.out, hF⟩
    | false =>
     rw [hh] at hg2
     cases hbd : (text_Read.st xs).bad with
     | true =>
      rw [hbd] at hg3
      have hF : text_Read.fail pre.length (text_Read.st xs) = true := by unfold text_Read.fail; rw [hh, hbd]; rfl
      gi_wp2
      show KeepsFrom _ _ _ ∧ _
      have p1 : (wr.setCell ⟨ga, 0, none⟩ (.slice none 0 0)).heap[ga]? = some (.cells #[.slice none 0 0] 24 (0, 0)) := by have := blk_put (cs' := #[.slice none 0 0]) K3.out 0 (.slice none 0 0) rfl; exact this
      have p2 : (wr.setCell ⟨ga, 0, none⟩ (.slice none 0 0)).heap[gb]? = some (.cells #[.int .i64 0] 25 (0, 0)) := (Below.heap_setCell wr ⟨ga, 0, none⟩ _ gb NBgb_ga.out).trans K4.out
      have p3 := (Below.heap_setCell (wr.setCell ⟨ga, 0, none⟩ (.slice none 0 0)) ⟨gb, 0, none⟩ (.int .i64 130) ga NBga_gb.out).trans p1
      have p4 : ((wr.setCell ⟨ga, 0, none⟩ (.slice none 0 0)).setCell ⟨gb, 0, none⟩ (.int .i64 130)).heap[gb]? = some (.cells #[.int .i64 130] 25 (0, 0)) := by have := blk_put (cs' := #[.int .i64 130]) p2 0 (.int .i64 130) rfl; exact this
      exact ⟨((keeps_of_below KW.out).from _).trans (((KeepsOthers.setCell _ _ _).from _).trans ((KeepsOthers.setCell _ _ _).from _)), p3, p4, (K5.out.setCell (p := ⟨ga, 0, none⟩) GEga.out _).setCell (p := ⟨gb, 0, none⟩) GEgb.out _, rfl, pre, _, rfl, H6.out, hF⟩
     | false =>
      rw [hbd] at hg3
      have hol : (text_Read.outs (pre.map (·.xs))).length = pre.length := by simp [text_Read.outs]
      have HOL := Aside0.mk hol
      by_cases h100 : 100 < pre.length
      ·have hF : text_Read.fail pre.length (text_Read.st xs) = true := by unfold text_Read.fail; rw [hh, hbd]; simpa using h100
       have hz1 : decide ((100 : Int) < ((text_Read.outs (pre.map (·.xs))).length : Int)) = true := decide_eq_true (by omega)
       have hz2 : decide (100 < (text_Read.outs (pre.map (·.xs))).length) = true := decide_eq_true (by omega)
       clear hol
       gi_wp2
       show KeepsFrom _ _ _ ∧ _
       have p1 : (wr.setCell ⟨ga, 0, none⟩ (.slice none 0 0)).heap[ga]? = some (.cells #[.slice none 0 0] 24 (0, 0)) := by have := blk_put (cs' := #[.slice none 0 0]) K3.out 0 (.slice none 0 0) rfl; exact this
       have p2 : (wr.setCell ⟨ga, 0, none⟩ (.slice none 0 0)).heap[gb]? = some (.cells #[.int .i64 0] 25 (0, 0)) := (Below.heap_setCell wr ⟨ga, 0, none⟩ _ gb NBgb_ga.out).trans K4.out
       have p3 := (Below.heap_setCell (wr.setCell ⟨ga, 0, none⟩ (.slice none 0 0)) ⟨gb, 0, none⟩ (.int .i64 130) ga NBga_gb.out).trans p1
       have p4 : ((wr.setCell ⟨ga, 0, none⟩ (.slice none 0 0)).setCell ⟨gb, 0, none⟩ (.int .i64 130)).heap[gb]? = some (.cells #[.int .i64 130] 25 (0, 0)) := by have := blk_put (cs' := #[.int .i64 130]) p2 0 (.int .i64 130) rfl; exact this
       exact ⟨((keeps_of_below KW.out).from _).trans (((KeepsOthers.setCell _ _ _).from _).trans ((KeepsOthers.setCell _ _ _).from _)), p3, p4, (K5.out.setCell (p := ⟨ga, 0, none⟩) GEga.out _).setCell (p := ⟨gb, 0, none⟩) GEgb.out _, rfl, pre, _, rfl, H6.out, hF⟩
      ·have hF : text_Read.fail pre.length (text_Read.st xs) = false := by unfold text_Read.fail; rw [hh, hbd]; simpa using h100
       have hz1 : decide ((100 : Int) < ((text_Read.outs (pre.map (·.xs))).length : Int)) = false := decide_eq_false (by omega)
       have hz2 : decide (100 < (text_Read.outs (pre.map (·.xs))).length) = false := decide_eq_false (by omega)
       clear hol
       gi_wp2
       refine startIn_ (m := 8) (open_in open_wide l) (S := fun w' => w'.cell? ⟨gc, 0, none⟩ = some (.slice A (text_Read.outs (pre.map (·.xs))).length c) ∧ w'.cell? ⟨gr, 0, none⟩ = some (.slice Aa (text_Read.st xs).codes.length ca) ∧ w'.cell? ⟨gr, 1, none⟩ = some (.slice Ab (text_Read.st xs).soft.length cb)) (ds := [7]) #[false, false, false, false, false, false, false, false] (by rintro ⟨_, _, ⟨_, h⟩, _⟩) (by kernel_rfl) (by kernel_rfl) rfl rfl ⟨(blk_cell K1.out 0).trans rfl, (blk_cell KG.out 0).trans rfl, (blk_cell KG.out 1).trans rfl⟩ (fun hHeld => ?_)
       refine pure_ (i := 1) (N := some 43) (v := ?_) (a' := ?_) #[false, true, false, false, false, false, false, false] rfl rfl (by kernel_rfl) (fun _ _ _ h => h) (Or.inl ⟨by rfl, ?_⟩) ?_ ?_
       rotate_left
       ·intro w'
        go_simp
        with_reducible rfl
       rotate_left
       ·simp only [Act.put, List.setIfInBounds_toArray, List.set_cons_zero, List.set_cons_succ, i64_w, i32_w]
        rfl
       refine pure_ (i := 2) (N := some 44) (v := ?_) (a' := ?_) #[false, true, true, false, false, false, false, false] rfl rfl (by kernel_rfl) (fun _ _ _ h => h) (Or.inl ⟨by rfl, ?_⟩) ?_ ?_
       rotate_left
       ·intro w'
        go_simp
        with_reducible rfl
       rotate_left
       ·simp only [Act.put, List.setIfInBounds_toArray, List.set_cons_zero, List.set_cons_succ, i64_w, i32_w]
        rfl
       refine pure_ (i := 3) (N := some 45) (v := ?_) (a' := ?_) #[false, true, true, true, false, false, false, false] rfl rfl (by kernel_rfl) (fun _ _ _ h => h) (Or.inl ⟨by rfl, ?_⟩) ?_ ?_
       rotate_left
       ·intro w'
        go_simp
        with_reducible rfl
       rotate_left
       ·simp only [Act.put, List.setIfInBounds_toArray, List.set_cons_zero, List.set_cons_succ, i64_w, i32_w]
        rfl
       refine take_ (i := 0) (N := some 42) (v := ?_) (a' := ?_) #[true, true, true, true, false, false, false, false] rfl rfl (by kernel_rfl) (fun _ _ _ h => h) (Or.inl ⟨by rfl, ?_⟩) hHeld ?_ ?_
       rotate_left
       ·rintro w' ⟨s0, s1, s2⟩
        go_simp
        with_reducible rfl
       rotate_left
       ·simp only [Act.put, List.setIfInBounds_toArray, List.set_cons_zero, List.set_cons_succ, i64_w, i32_w]
        rfl
       refine take_ (i := 4) (N := some 46) (v := ?_) (a' := ?_) #[true, true, true, true, true, false, false, false] rfl rfl (by kernel_rfl) (fun _ _ _ h => h) (Or.inl ⟨by rfl, ?_⟩) hHeld ?_ ?_
       rotate_left
       ·rintro w' ⟨s0, s1, s2⟩
        go_simp
        with_reducible rfl
       rotate_left
       ·simp only [Act.put, List.setIfInBounds_toArray, List.set_cons_zero, List.set_cons_succ, i64_w, i32_w]
        rfl
       have hgsz : gr < wr.heap.size := (Array.getElem?_eq_some_iff.1 KG.out).1
       have hcsz : gc < wr.heap.size := (Array.getElem?_eq_some_iff.1 K1.out).1
       have hasz : ga < wr.heap.size := (Array.getElem?_eq_some_iff.1 K3.out).1
       have hbsz : gb < wr.heap.size := (Array.getElem?_eq_some_iff.1 K4.out).1
       refine one_ (i := 5) (N := some 47) #[true, true, true, true, true, true, false, false] rfl rfl (by kernel_rfl) (by decide) (fun K hK => ?_)
       refine value_ (w1 := ?_) (v := ?_) (by rfl) rfl ?_ ?_
       rotate_left 2
       ·go_simp
        constructor
        ·rfl
        ·rfl
       refine hK.out _ _ ⟨(World.cell?_alloc_past (w := wr.drew) _ gc 0 hcsz).trans ((blk_cell K1.out 0).trans rfl), (World.cell?_alloc_past (w := wr.drew) _ gr 0 hgsz).trans ((blk_cell KG.out 0).trans rfl), (World.cell?_alloc_past (w := wr.drew) _ gr 1 hgsz).trans ((blk_cell KG.out 1).trans rfl)⟩ (fun hHeld2 => ?_)
       clear hK K
       refine norm_ (a' := ?_) ?_ ?_
       rotate_left
       ·show Act.put _ (some 47) _ = _
        simp only [Act.put, List.setIfInBounds_toArray, List.set_cons_zero, List.set_cons_succ, i64_w, i32_w]
        rfl
       refine one_ (i := 6) (N := some 48) #[true, true, true, true, true, true, true, false] rfl rfl (by kernel_rfl) (by decide) (fun K hK => ?_)
       have hbase0 : ∀ k, some k = (Value.slice Aa (text_Read.st xs).codes.length ca).ownBlock ∨ some k = (Value.slice Ab (text_Read.st xs).soft.length cb).ownBlock → W.heap.size ≤ k := by
        rintro k (h | h)
        ·have := Kd.R_base Kr0.out k h.symm
         rw [HGR.out] at this
         exact this
        ·have := Kd.R_base Kr1.out k h.symm
         rw [HGR.out] at this
         exact this
       have hWlt : W0.heap.size ≤ W.heap.size := HWS.out
       have hAA := HA1.out
       have hgaW : ga < W.heap.size := (Array.getElem?_eq_some_iff.1 H3.out).1
       have hgbW : gb < W.heap.size := (Array.getElem?_eq_some_iff.1 H4.out).1
       have hgcW : gc < W.heap.size := (Array.getElem?_eq_some_iff.1 H1.out).1
       have hwrW : W.heap.size ≤ wr.heap.size := KW.out.size
       have hwW : w.heap.size ≤ W.heap.size := H5.out.size
       have hgrW : gr = W.heap.size := HGR.out
       have hfr : ∀ k, W.heap.size ≤ k → text_Read.okR Bt (Bt + 1) ga gb gc k := by
        intro k hk
        refine ⟨?_, ?_, ?_, ?_, ?_⟩ <;> omega
       refine Kd.S_append_step k36 (w0 := W) (W := wr.drew) w.heap.size (by rfl) (.tmp 42) (.tmp 47) 24 36 (.agg #[(.slice none 0 0), (.slice none 0 0)]) 48 rfl Try.underlying24 info36 rfl (by decide) (by omega) (.slice A (text_Read.outs (pre.map (·.xs))).length c) (text_Read.outs (pre.map (·.xs))) ⟨(text_Read.st xs).codes, (text_Read.st xs).soft⟩ [.slice Aa (text_Read.st xs).codes.length ca, .slice Ab (text_Read.st xs).soft.length cb] (text_Read.okR Bt (Bt + 1) ga gb gc) (fun k => some k = (Value.slice Aa (text_Read.st xs).codes.length ca).ownBlock ∨ some k = (Value.slice Ab (text_Read.st xs).soft.length cb).ownBlock) rfl rfl ?hp ?hokp ?hfresh ?HO ?HB ?hbase ?hl ?_
       case hp => exact k36_mkM _ _ _ _ (Kd.R_mono (Kd.R_lower (Kd.R_drew Kr0.out) (by rw [hgrW]; exact hwW)) (fun k hk => .inl hk)) (Kd.R_mono (Kd.R_lower (Kd.R_drew Kr1.out) (by rw [hgrW]; exact hwW)) (fun k hk => .inr hk))
       case hokp =>
        intro k hk
        refine ⟨hfr k (hbase0 k hk), fun e => ?_⟩
        have h1 := Kd.S_lt H2.out k e.symm
        have h2 := hbase0 k hk
        omega
       case hfresh => exact fun k hk => hfr k (Nat.le_trans hwrW hk)
       case HO =>
        refine Kd.S_mono (Kd.S_drew (Kd.S_old H2.out KW.out)) (fun k hk => ⟨hk.1, fun h => ?_⟩)
        have h1 := hk.2
        have h2 := hbase0 k h
        omega
       case HB => exact below_drew (KW.out.mono hwW)
       case hbase => exact Nat.le_trans hwW hwrW
       case hl =>
        rw [HOL.out]
        omega
       intro v1 w1 hS1 hB1 hg1 hat1
       obtain ⟨A2, c2, e2⟩ := Kd.S_slice hS1
       subst e2
       have K2d := Kd.S_drew K2.out
       have n1 := Kd.S_ne (g := gc) K2.out K1.out (by decide)
       have n2 := Kd.S_ne (g := gr) K2.out KG.out (by decide)
       have P1 : w1.heap[gc]? = _ := (hg1.block gc hcsz n1).trans K1.out
       have P2 : w1.heap[gr]? = _ := (hg1.block gr hgsz n2).trans KG.out
       refine hK.out _ _ ⟨(blk_cell P1 0).trans rfl, (blk_cell P2 0).trans rfl, (blk_cell P2 1).trans rfl⟩ (fun hHeld3 => ?_)
       clear hK K
       refine norm_ (a' := ?_) ?_ ?_
       rotate_left
       ·show Act.put _ (some 48) _ = _
        simp only [Act.put, List.setIfInBounds_toArray, List.set_cons_zero, List.set_cons_succ, i64_w, i32_w]
        rfl
       have hxc := blk_cell P1 0
       have hfc := blk_frozen P1
       refine last_ (i := 7) (N := none) #[true, true, true, true, true, true, true, true] rfl rfl (by kernel_rfl) (by decide) (fun K hK => ?_)
       refine skip_ (w1 := ?_) (by rfl) rfl ?_ ?_
       rotate_left
       ·go_simp
        rfl
       refine hK.out _ _ ?_
       clear hK K
       refine done_ (by kernel_rfl) ?_
       show KeepsFrom _ _ _ ∧ _ ∧ _
       have hWb : Below w.heap.size W w1 := hB1
       have hln : (text_Read.outs (pre.map (·.xs)) ++ [(⟨(text_Read.st xs).codes, (text_Read.st xs).soft⟩ : S36)]).length = (text_Read.outs (pre.map (·.xs))).length + 1 := by simp
       rw [hln] at hS1
       have hne : ∀ g, g ≠ gc → (w1.setCell ⟨gc, 0, none⟩ (.slice A2 ((text_Read.outs (pre.map (·.xs))).length + 1) c2)).heap[g]? = w1.heap[g]? := fun g h => Below.heap_setCell w1 ⟨gc, 0, none⟩ _ g h
       have nBt := Kd.S_away (g := Bt) K2.out (fun k hk => hk.1)
       have nBg := Kd.S_away (g := Bt + 1) K2.out (fun k hk => hk.2.1)
       have nga := Kd.S_away (g := ga) K2.out (fun k hk => hk.2.2.1)
       have ngb := Kd.S_away (g := gb) K2.out (fun k hk => hk.2.2.2.1)
       have hsame : ∀ g, g < W.heap.size → g ≠ gc → some g ≠ (Value.slice A (text_Read.outs (pre.map (·.xs))).length c).ownBlock → (w1.setCell ⟨gc, 0, none⟩ (.slice A2 ((text_Read.outs (pre.map (·.xs))).length + 1) c2)).heap[g]? = W.heap[g]? := fun g h h2 h3 =>
        (hne g h2).trans ((hg1.block g (Nat.lt_of_lt_of_le h hwrW) h3).trans (KW.out.block g h))
       refine ⟨?_, ⟨hWb.setCell (p := ⟨gc, 0, none⟩) GEgc.out _, hsame Bt (by omega) (by omega) nBt, hsame (Bt + 1) (by omega) (by omega) nBg⟩, ⟨?_, ?_, ?_, ?_, ?_⟩⟩
       ·refine ((keeps_of_below KW.out).trans ((KeepsOthers.drew wr).trans ((KeepsOthers.of_grownBy hg1 ?_).trans (KeepsOthers.setCell _ _ _)))).from _
        intro j o hj ho
        obtain ⟨cells, hc⟩ := Kd.S_typed K2.out j hj
        have ho2 : wr.heap[j]? = some o := ho
        rw [hc] at ho2
        obtain rfl := Option.some.inj ho2
        rfl
       ·refine ⟨.slice A2 ((text_Read.outs (pre.map (·.xs))).length + 1) c2, ?_, ?_⟩
        ·have := blk_put (cs' := #[.slice A2 ((text_Read.outs (pre.map (·.xs))).length + 1) c2]) P1 0 (.slice A2 ((text_Read.outs (pre.map (·.xs))).length + 1) c2) rfl
         exact this
        ·have e : text_Read.outs ((pre ++ [(⟨Ax, cx, xs, hCx, hcx, hlx⟩ : text_words_2.Piece w)]).map (·.xs)) = text_Read.outs (pre.map (·.xs)) ++ [⟨(text_Read.st xs).codes, (text_Read.st xs).soft⟩] := by simp [text_Read.outs]
         rw [e]
         exact Kd.S_far hS1 (p := ⟨gc, 0, none⟩) (fun k hk => hk.2.2.2.2) _
       ·exact (hsame ga hgaW NBga_gc.out nga).trans H3.out
       ·exact (hsame gb hgbW NBgb_gc.out ngb).trans H4.out
       ·exact H5.out.trans (hWb.setCell (p := ⟨gc, 0, none⟩) GEgc.out _)
       ·rw [List.map_append, List.map_cons, List.map_nil, text_Read.good_snoc, H6.out, Nat.zero_add, List.length_map, hF]
        rfl
 case done =>
  rintro D xs W hD hS ⟨⟨v, h1, h2⟩, h3, h4, h5, h6⟩ hK
  obtain ⟨A, c, e⟩ := Kd.S_slice h2
  subst e
  have hDa : ga ≠ D := by have := HA1.out; omega
  have hDb : gb ≠ D := by have := HA1.out; omega
  have hwD : w.heap.size ≤ D := by have := HA1.out; omega
  have hrun : text_Read.run (text_words_2.all l0) [] = some (text_Read.outs (xs.map (·.xs))) := by
   rw [← hS]
   have := text_Read.run_app (xs.map (·.xs)) [] [] h6
   rw [List.append_nil] at this
   rw [this]
   simp [text_Read.run]
  have hh := HH.out
  rw [hrun] at hh
  obtain ⟨b, hb, hh⟩ := Option.bind_eq_some_iff.mp hh
  have hCK := Aside0.mk (fun (W' : World) (hB : Below W.heap.size W W') => text_Check.calls k A c (text_Read.outs (xs.map (·.xs))) b W' (Kd.C_below (Kd.S_reads' h2).2.2 hB) (Kd.S_reads' h2).2.1 hb)
  have hx1 := blk_cell h1 0
  have H1 := Aside0.mk h1
  have H2 := Aside0.mk h2
  have H3 := Aside0.mk h3
  have H4 := Aside0.mk h4
  have H5 := Aside0.mk h5
  have HK := Aside0.mk hK
  have HX := Aside0.mk hh
  clear h1 h2 h3 h4 h5 hK hh hb hrun KA KB KC HB0 HT HG HH hS h6
  cases b with
  | false =>
   obtain ⟨rfl, rfl⟩ : [] = r1 ∧ 130 = r2 := by simpa using HX.out
   gi_wp2
   go_wp2_with (first | (go_at_call 17; (with_reducible refine (hCK.out W (Below.refl _ _)).mono ?_); rintro e w1 ⟨rfl, hb⟩; have q3 := blk_below H3.out hb; have q4 := blk_below H4.out hb; have Q3 := Aside0.mk q3; have Q4 := Aside0.mk q4; have QK := Aside0.mk (blk_below HK.out hb); have hx3 := blk_cell q3 0; have hf3 := blk_frozen q3; have hx4 := blk_cell q4 0; have hf4 := blk_frozen q4; have QB := Aside0.mk (below_step H5.out hb); have hn1 := NBga_gb.out; have hn2 := NBgb_ga.out; clear q3 q4 hb hx1))
   have p1 : (w1.setCell ⟨ga, 0, none⟩ (Value.slice none 0 0)).heap[ga]? = some (.cells #[Value.slice none 0 0] 24 (0, 0)) := by have := blk_put (cs' := #[Value.slice none 0 0]) Q3.out 0 (Value.slice none 0 0) rfl; exact this
   have p2 : (w1.setCell ⟨ga, 0, none⟩ (Value.slice none 0 0)).heap[gb]? = some (.cells #[.int .i64 0] 25 (0, 0)) := (Below.heap_setCell w1 ⟨ga, 0, none⟩ _ gb NBgb_ga.out).trans Q4.out
   have p3 := (Below.heap_setCell (w1.setCell ⟨ga, 0, none⟩ (Value.slice none 0 0)) ⟨gb, 0, none⟩ (.int .i64 130) ga NBga_gb.out).trans p1
   have p4 : ((w1.setCell ⟨ga, 0, none⟩ (Value.slice none 0 0)).setCell ⟨gb, 0, none⟩ (.int .i64 130)).heap[gb]? = some (.cells #[.int .i64 130] 25 (0, 0)) := by have := blk_put (cs' := #[.int .i64 130]) p2 0 (.int .i64 130) rfl; exact this
   have pk := (Below.heap_setCell (w1.setCell ⟨ga, 0, none⟩ (Value.slice none 0 0)) ⟨gb, 0, none⟩ (.int .i64 130) D (Ne.symm hDb)).trans ((Below.heap_setCell w1 ⟨ga, 0, none⟩ (Value.slice none 0 0) D (Ne.symm hDa)).trans QK.out)
   have pB := (QB.out.setCell (p := ⟨ga, 0, none⟩) GEga.out (Value.slice none 0 0)).setCell (p := ⟨gb, 0, none⟩) GEgb.out (.int .i64 130)
   generalize (w1.setCell ⟨ga, 0, none⟩ (Value.slice none 0 0)).setCell ⟨gb, 0, none⟩ (.int .i64 130) = W5 at p3 p4 pk pB ⊢
   have hca := blk_cell ((World.putObj_heap_other (o := .deferred none) hDa).trans p3) 0
   have hcb := blk_cell ((World.putObj_heap_other (o := .deferred none) hDb).trans p4) 0
   refine ⟨by simp, .inl ⟨_, _, rfl, run_takeDeferred pk, ?_⟩⟩
   refine ⟨.tuple #[Value.slice none 0 0, .int .i64 130], by simp [results, Try.results11, go_sem, hca, hcb], _, rfl, ?_, pB.trans (belowK_b (w := w) (Nat.le_refl _) W5 D _ (.deferred none) hwD pk rfl rfl)⟩
   exact Kd.S_nil _ _ _ _ _
  | true =>
   obtain ⟨rfl, rfl⟩ : text_Read.outs (xs.map (·.xs)) = r1 ∧ 0 = r2 := by simpa using HX.out
   gi_wp2
   go_wp2_with (first | (go_at_call 17; (with_reducible refine (hCK.out W (Below.refl _ _)).mono ?_); rintro e w1 ⟨rfl, hb⟩; have q1 := blk_below H1.out hb; have Q2 := Aside0.mk (Kd.S_below H2.out hb); have hxo := blk_cell q1 0; have hfo := blk_frozen q1; have hn3 := NBgc_ga.out; have hn4 := NBga_gc.out; have q3 := blk_below H3.out hb; have q4 := blk_below H4.out hb; have Q3 := Aside0.mk q3; have Q4 := Aside0.mk q4; have QK := Aside0.mk (blk_below HK.out hb); have hx3 := blk_cell q3 0; have hf3 := blk_frozen q3; have hx4 := blk_cell q4 0; have hf4 := blk_frozen q4; have QB := Aside0.mk (below_step H5.out hb); have hn1 := NBga_gb.out; have hn2 := NBgb_ga.out; clear q3 q4 hb hx1; clear q1))
   have p1 : (w1.setCell ⟨ga, 0, none⟩ (Value.slice A (text_Read.outs (xs.map (·.xs))).length c)).heap[ga]? = some (.cells #[Value.slice A (text_Read.outs (xs.map (·.xs))).length c] 24 (0, 0)) := by have := blk_put (cs' := #[Value.slice A (text_Read.outs (xs.map (·.xs))).length c]) Q3.out 0 (Value.slice A (text_Read.outs (xs.map (·.xs))).length c) rfl; exact this
   have p2 : (w1.setCell ⟨ga, 0, none⟩ (Value.slice A (text_Read.outs (xs.map (·.xs))).length c)).heap[gb]? = some (.cells #[.int .i64 0] 25 (0, 0)) := (Below.heap_setCell w1 ⟨ga, 0, none⟩ _ gb NBgb_ga.out).trans Q4.out
   have p3 := (Below.heap_setCell (w1.setCell ⟨ga, 0, none⟩ (Value.slice A (text_Read.outs (xs.map (·.xs))).length c)) ⟨gb, 0, none⟩ (.int .i64 0) ga NBga_gb.out).trans p1
   have p4 : ((w1.setCell ⟨ga, 0, none⟩ (Value.slice A (text_Read.outs (xs.map (·.xs))).length c)).setCell ⟨gb, 0, none⟩ (.int .i64 0)).heap[gb]? = some (.cells #[.int .i64 0] 25 (0, 0)) := by have := blk_put (cs' := #[.int .i64 0]) p2 0 (.int .i64 0) rfl; exact this
   have pk := (Below.heap_setCell (w1.setCell ⟨ga, 0, none⟩ (Value.slice A (text_Read.outs (xs.map (·.xs))).length c)) ⟨gb, 0, none⟩ (.int .i64 0) D (Ne.symm hDb)).trans ((Below.heap_setCell w1 ⟨ga, 0, none⟩ (Value.slice A (text_Read.outs (xs.map (·.xs))).length c) D (Ne.symm hDa)).trans QK.out)
   have pB := (QB.out.setCell (p := ⟨ga, 0, none⟩) GEga.out (Value.slice A (text_Read.outs (xs.map (·.xs))).length c)).setCell (p := ⟨gb, 0, none⟩) GEgb.out (.int .i64 0)
   have pS := Kd.S_far (Kd.S_far Q2.out (p := ⟨ga, 0, none⟩) (fun k hk => hk.2.2.1) (Value.slice A (text_Read.outs (xs.map (·.xs))).length c)) (p := ⟨gb, 0, none⟩) (fun k hk => hk.2.2.2.1) (.int .i64 0)
   generalize (w1.setCell ⟨ga, 0, none⟩ (Value.slice A (text_Read.outs (xs.map (·.xs))).length c)).setCell ⟨gb, 0, none⟩ (.int .i64 0) = W5 at p3 p4 pk pB pS ⊢
   have hca := blk_cell ((World.putObj_heap_other (o := .deferred none) hDa).trans p3) 0
   have hcb := blk_cell ((World.putObj_heap_other (o := .deferred none) hDb).trans p4) 0
   refine ⟨by simp, .inl ⟨_, _, rfl, run_takeDeferred pk, ?_⟩⟩
   refine ⟨.tuple #[Value.slice A (text_Read.outs (xs.map (·.xs))).length c, .int .i64 0], by simp [results, Try.results11, go_sem, hca, hcb], _, rfl, ?_, pB.trans (belowK_b (w := w) (Nat.le_refl _) W5 D _ (.deferred none) hwD pk rfl rfl)⟩
   exact Kd.S_mono (S_turn pS (grownBy_putObj' W5 D (.deferred none)) (fun r e => by cases e; exact ⟨_, pk, rfl⟩)) (fun _ _ => trivial)
 case stop =>
  rintro D c pre W hD hpre ⟨h3, h4, h5, rfl, pre', p, rfl, hg, hf⟩ hK
  have hDa : ga ≠ D := by have := HA1.out; omega
  have hDb : gb ≠ D := by have := HA1.out; omega
  have hwD : w.heap.size ≤ D := by have := HA1.out; omega
  have hrun : text_Read.run (text_words_2.all l0) [] = none := by
   obtain ⟨rest, hrest⟩ := hpre
   rw [← hrest, List.map_append, List.append_assoc, text_Read.run_app _ _ [] hg, List.nil_append, List.map_cons, List.map_nil, List.singleton_append, text_Read.run, if_pos]
   rw [show (text_Read.outs (pre'.map (·.xs))).length = pre'.length by simp [text_Read.outs]]
   exact hf
  have hh := HH.out
  rw [hrun] at hh
  obtain ⟨rfl, rfl⟩ : [] = r1 ∧ 130 = r2 := by simpa using hh
  have hpa : (W.putObj D (.deferred none)).heap[ga]? = some (.cells #[.slice none 0 0] 24 (0, 0)) := (World.putObj_heap_other hDa).trans h3
  have hpb : (W.putObj D (.deferred none)).heap[gb]? = some (.cells #[.int .i64 130] 25 (0, 0)) := (World.putObj_heap_other hDb).trans h4
  have hca := blk_cell hpa 0
  have hcb := blk_cell hpb 0
  have hHK := Aside0.mk hK
  have hH5 := Aside0.mk (h5.trans (belowK_b (w := w) (Nat.le_refl _) W D _ (.deferred none) hwD hK rfl rfl))
  clear hK h5 h3 h4 hpa hpb KA KB KC HB0 HT HG HH hh
  gi_wp2
  refine ⟨by simp, .inl ⟨_, _, rfl, run_takeDeferred hHK.out, ?_⟩⟩
  refine ⟨.tuple #[.slice none 0 0, .int .i64 130], by simp [results, Try.results11, go_sem, hca, hcb], _, rfl, Kd.S_nil _ _ _ _ _, hH5.out⟩

end Go.Proofs.Ytanhafkoohnjhaa.G
