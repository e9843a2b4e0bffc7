/- Contracts of the functions of this seat: what each call computes, as a plain Lean function. Made by this session's own generator. -/
import Derived.Test.YtihiiidbhhlfnaaGx0
namespace Go.Proofs.Ytihiiidbhhlfnaa.G
open Go.RowKit Go.Proofs.YtihiiidbhhlfnaaMy Go.Proofs.YtihiiidbhhlfnaaW.PrintWords Go.Proofs.YtihiiidbhhlfnaaW.PrintLast Go.Proofs.YtihiiidbhhlfnaaW.PrintMore
attribute [local go_sem] max2_int min2_int max_two min_two max_three min_three max_four min_four   -- for this text's walks alone
set_option linter.unusedVariables false
set_option linter.unusedSimpArgs false

/-! ### ship_out_byte: function 19 -/
-- by hand
/-- The state of bytes that grow: block g holds a row that lies at base or beyond. -/
def ship_out_byte.Holds (w : World) (base g : Nat) (xs : List Int) : Prop :=
 ∃ v, w.heap[g]? = some (.cells #[v] 50 (0, 0)) ∧ base ≤ g ∧ Kd.R (Kd.int .u8) 5 w base (fun _ => True) v xs
theorem ship_out_byte.holds_below {w w' : World} {base g : Nat} {xs : List Int} (h : ship_out_byte.Holds w base g xs) (hb : Below w.heap.size w w') : ship_out_byte.Holds w' base g xs := by
 obtain ⟨v, h1, h2, h3⟩ := h
 exact ⟨v, blk_below h1 hb, h2, Kd.R_below h3 hb⟩
/-- All that lies stays, block g and bytes apart. -/
def ship_out_byte.Stays (g : Nat) (w w' : World) : Prop := ∀ k o, w.heap[k]? = some o → k ≠ g → (∀ cells, o ≠ .cells cells 5 (0, 0)) → w'.heap[k]? = some o
theorem ship_out_byte.stays_t {g : Nat} {a b c : World} (h : ship_out_byte.Stays g a b) (k : ship_out_byte.Stays g b c) : ship_out_byte.Stays g a c := fun i o hi hn hc => k i o (h i o hi hn hc) hn hc
theorem ship_out_byte.stays_below {g : Nat} {w w' : World} (hb : Below w.heap.size w w') : ship_out_byte.Stays g w w' := fun k o hk _ _ => (hb.block k (Array.getElem?_eq_some_iff.1 hk).1).trans hk
theorem ship_out_byte.stays_set {g : Nat} {w : World} (v : Value) : ship_out_byte.Stays g w (w.setCell ⟨g, 0, none⟩ v) := fun k o hk hn _ => (Below.heap_setCell w ⟨g, 0, none⟩ v k hn).trans hk
theorem ship_out_byte.holds_other {w w2 : World} {base g ga t : Nat} {xs : List Int} {cs : Array Value} (h : ship_out_byte.Holds w base g xs) (hg : w.heap[ga]? = some (.cells cs t (0, 0))) (h1 : t ≠ 50) (h2 : 5 ≠ t) (hk : ∀ k, k ≠ ga → w2.heap[k]? = w.heap[k]?) : ship_out_byte.Holds w2 base g xs := by
 obtain ⟨v, e1, e2, e3⟩ := h
 refine ⟨v, (hk g (fun e => ?_)).trans e1, e2, Kd.R_mono (Kd.R_step (Kd.R_tight rfl e3) (fun j hj _ => hk j (fun e4 => Kd.R_ne e3 hg h2 (by rw [← e4]; exact hj)))) (fun _ _ => trivial)⟩
 subst e
 rw [hg] at e1
 simp only [Option.some.injEq, Obj.cells.injEq] at e1
 exact h1 e1.2.1
theorem ship_out_byte.ne_of {w : World} {a b t1 t2 : Nat} {c1 c2 : Array Value} (h1 : w.heap[a]? = some (.cells c1 t1 (0, 0))) (h2 : w.heap[b]? = some (.cells c2 t2 (0, 0))) (h : t1 ≠ t2) : a ≠ b := by
 intro e
 subst e
 rw [h1] at h2
 simp only [Option.some.injEq, Obj.cells.injEq] at h2
 exact h h2.2.1
theorem ship_out_byte.R_set {d : Kd Int} {e base g t : Nat} {ok : Nat → Prop} {v u : Value} {xs : List Int} {w : World} {cs : Array Value} (h : Kd.R d e w base ok v xs) (hE : d.E = []) (hg : w.heap[g]? = some (.cells cs t (0, 0))) (ht : e ≠ t) : Kd.R d e (w.setCell ⟨g, 0, none⟩ u) base ok v xs :=
 Kd.R_mono (Kd.R_step (Kd.R_tight hE h) (fun j hj _ => Below.heap_setCell w ⟨g, 0, none⟩ u j (fun e2 => Kd.R_ne h hg ht (by have e3 : j = g := e2; rw [← e3]; exact hj)))) (fun j hj => h.1 j hj.symm)
set_option maxHeartbeats 4000000 in
theorem ship_out_byte.calls (n : Int) (xs : List Int) (g : Nat) (w0 w : World) (hB : Below w0.heap.size w0 w) (h : ship_out_byte.Holds w w0.heap.size g xs) (hl : xs.length < 1000000000000) :
  Calls Try.prog 19 #[.pointer (some ⟨g, 0, none⟩), .int .i64 n] w fun e w' => e = .returned (.tuple #[]) ∧ ship_out_byte.Holds w' w0.heap.size g (xs ++ [n % 256]) ∧ Below w0.heap.size w0 w' ∧ ship_out_byte.Stays g w w' := by
 obtain ⟨v, h1, h2, h3⟩ := h
 obtain ⟨A, c, e⟩ := Kd.R_slice h3
 subst e
 have hu := Try.underlying50
 have H1 := Aside0.mk h1
 have H2 := Aside0.mk h2
 have HO := Aside0.mk h3
 have HL := Aside0.mk hl
 have HB := Aside0.mk hB
 have hx := blk_cell h1 0
 clear h1 h2 h3 hl hB
 go_enter Try.func19, Try.ntmps19
 go_wp2_with (first | ((with_reducible refine gate_builtin (b := .append) (xs := #[.tmp 8, .tmp 11]) rfl ?_); at_builtin; refine Kd.R_append (Kd.int .u8) (w0 := w0) w0.heap.size rfl (.tmp 8) (.tmp 11) 25 5 (.int .u8 0) 1 rfl Try.underlying25 info5 rfl (by decide) (by omega) (.slice A xs.length c) xs (n % 256) [.int .u8 (n % 256)] (fun _ => True) (fun _ => False) rfl rfl ?aP (fun _ hk => hk.elim) ?aF ?aO ?aB ?aS ?aL ?_; (case aP => exact rfl); (case aB => exact (by repeat (first | (with_reducible first | exact HB.out | apply below_alloc | apply pw_below_drewN | apply below_drew1) | exact HB.out))); (case aF => exact (fun _ _ => trivial)); (case aO => exact (by (with_reducible repeat (first | apply Kd.R_alloc | apply Kd.R_drewN | apply Kd.R_drew)); exact HO.out)); (case aS => exact (below_size (by repeat (first | (with_reducible first | exact HB.out | apply below_alloc | apply pw_below_drewN | apply below_drew1) | exact HB.out)))); (case aL => have := HL.out; omega); intro v2 w2 ho hb hg hat; obtain ⟨A2, c2, e2⟩ := Kd.R_slice ho; subst e2; have P2 := (hg.block g (Array.getElem?_eq_some_iff.1 H1.out).1 (Kd.R_ne HO.out H1.out (by decide))).trans H1.out; have HP2 := Aside0.mk P2; have hq := blk_cell P2 0; have hfq := blk_frozen P2; have HG := Aside0.mk hg; have HOO := HO; clear hx P2; have n0_ := Aside0.mk (hb); have n1_ := Aside0.mk (ho); clear HB; clear HO; have HB := n0_; have HO2 := n1_; clear n0_ n1_; clear ho hb hg hat))
 go_end0
 have hlen : (xs ++ [n % 256]).length = xs.length + 1 := by simp
 have HO3 := HO2.out
 rw [hlen] at HO3
 refine ⟨rfl, ⟨.slice A2 (xs.length + 1) c2, ?_, H2.out, ship_out_byte.R_set HO3 rfl HP2.out (by decide)⟩, HB.out.setCell (p := ⟨g, 0, none⟩) H2.out _, ?_⟩
 ·have := blk_put (cs' := #[.slice A2 (xs.length + 1) c2]) HP2.out 0 (.slice A2 (xs.length + 1) c2) rfl
  exact this
 ·refine ship_out_byte.stays_t (fun k o hk hn hc => (HG.out.block k (Array.getElem?_eq_some_iff.1 hk).1 (fun e => ?_)).trans hk) (ship_out_byte.stays_set _)
  obtain ⟨cells, hcs⟩ := Kd.R_typed HOO.out k e.symm
  rw [hcs] at hk
  exact hc cells (Option.some.inj hk).symm
set_option maxHeartbeats 4000000 in
/-- The first byte behind the mark, which lies in a constant's place. -/
theorem ship_out_byte.calls0 (n : Int) (A : Option Addr) (xs : List Int) (g : Nat) (w0 w : World) (hB : Below w0.heap.size w0 w) (h1 : w.heap[g]? = some (.cells #[.slice A xs.length xs.length] 50 (0, 0))) (h2 : w0.heap.size ≤ g) (hC : Kd.C (Kd.int .u8) w A xs.length xs) (hx0 : 0 < xs.length) (hl : xs.length < 1000000000000) :
  Calls Try.prog 19 #[.pointer (some ⟨g, 0, none⟩), .int .i64 n] w fun e w' => e = .returned (.tuple #[]) ∧ ship_out_byte.Holds w' w0.heap.size g (xs ++ [n % 256]) ∧ Below w0.heap.size w0 w' ∧ ship_out_byte.Stays g w w' := by
 have hu := Try.underlying50
 have H1 := Aside0.mk h1
 have H2 := Aside0.mk h2
 have HC := Aside0.mk hC
 have HL := Aside0.mk hl
 have HX := Aside0.mk hx0
 have HB := Aside0.mk hB
 have hx := blk_cell h1 0
 obtain ⟨i0, hi0, hz0, hs0, hb0⟩ := info_parts info5
 have HI := Aside0.mk hi0
 have HZ := Aside0.mk hz0
 have HS := Aside0.mk hs0
 have HY := Aside0.mk hb0
 have ha_ : ∀ b, A = some b → ∀ (j : Nat) (u : Value), (nums .u8 xs)[j]? = some u → (w.alloc (.cells #[.int .u8 (n % 256)] 5)).cell? (b.add j) = some u := by
  intro b hb j u hj
  have hj2 : j < xs.length := by have := (List.getElem?_eq_some_iff.1 hj).1; simpa [nums] using this
  obtain ⟨ad, cc, e, hcl, hK, hcc⟩ := C_elem (Kd.C_alloc hC (.cells #[.int .u8 (n % 256)] 5)) j hj2
  obtain rfl : cc = [.int .u8 xs[j]] := hK
  have hcell : (w.alloc (.cells #[.int .u8 (n % 256)] 5)).cell? (ad.add j) = some (.int .u8 xs[j]) := by simpa [Kd.int, Kd.scalar] using hcc 0 _ rfl
  rw [hb] at e
  obtain rfl := Option.some.inj e
  rw [hcell]
  simpa [nums, hj2] using hj
 clear h1 h2 hC hl hB hx0 hi0 hz0 hs0 hb0
 go_enter Try.func19, Try.ntmps19
 go_wp2_with (first | ((with_reducible refine gate_builtin (b := .append) (xs := #[.tmp 8, .tmp 11]) rfl ?_); at_builtin; refine wpList_append_grows _ rfl (.tmp 8) (.tmp 11) 25 rfl 5 i0 (.int .u8 0) 1 1 Try.underlying25 HI.out HZ.out HS.out HY.out rfl (by decide) A xs.length xs.length (nums .u8 xs) rfl ?an ?al ?ah ⟨w.heap.size, 0, none⟩ 1 1 [.int .u8 (n % 256)] rfl rfl ?ac ?a1 (by omega) ?ab ?ab2 ?_; (case an => (intro e; subst e; obtain ⟨_, _, h, _⟩ := C_elem HC.out 0 HX.out; cases h)); (case al => simp [nums]); (case ah => exact ha_); (case ac => exact cell_one_new _ _ _); (case a1 => simp [Value.oneCell']); (case ab => (have h9 := HL.out; simp only [maxLen]; omega)); (case ab2 => (have h9 := HL.out; omega)); intro v2 w2 hown hg; have hr_ : Kd.R (Kd.int .u8) 5 w2 w0.heap.size (fun _ => True) v2 (xs ++ [n % 256]) := Kd.R_lower (Kd.R_of_own (by simpa [nums, encs] using hown) (fun _ _ => trivial)) (by have h9 := HB.out.size; simp; omega); obtain ⟨A2, c2, e2⟩ := Kd.R_slice hr_; subst e2; have hbw : Below w.heap.size w w2 := ((Below.refl _ w).alloc (Nat.le_refl _) _).grown hg (by simp) (fun k e => by cases e); have P2 := blk_below H1.out hbw; have HP2 := Aside0.mk P2; have hq := blk_cell P2 0; have hfq := blk_frozen P2; have HBW := Aside0.mk hbw; have HR2 := Aside0.mk hr_; clear hx P2 hr_ hbw hown hg))
 go_end0
 have hlen : (xs ++ [n % 256]).length = xs.length + 1 := by simp
 have HO3 := HR2.out
 rw [hlen] at HO3
 refine ⟨rfl, ⟨.slice A2 (xs.length + 1) c2, ?_, H2.out, ship_out_byte.R_set HO3 rfl HP2.out (by decide)⟩, (HB.out.trans (HBW.out.mono HB.out.size)).setCell (p := ⟨g, 0, none⟩) H2.out _, ship_out_byte.stays_t (ship_out_byte.stays_below HBW.out) (ship_out_byte.stays_set _)⟩
 have := blk_put (cs' := #[.slice A2 (xs.length + 1) c2]) HP2.out 0 (.slice A2 (xs.length + 1) c2) rfl
 exact this

/-! ### pack_sized: function 49 -/
def pack_sized.f (a0 : Int) : Option (Bool) := if a0 ≥ 1 then (some (decide (a0 ≤ 4))) else (some false)
set_option maxHeartbeats 8000000 in
set_option maxRecDepth 100000 in
theorem pack_sized.calls (a0 : Int) (r : Bool) (w : World) (h : pack_sized.f a0 = some r) :
  Calls Try.prog 49 #[.int .i64 a0] w fun e w' => e = .returned (.bool r) ∧ Drawn0 w w' := by
 have H : (if a0 ≥ 1 then (some (decide (a0 ≤ 4))) else (some false)) = some r := h
 clear h
 by_cases c2 : a0 ≥ 1
 ·rw [if_pos c2] at H
  have c2b0 : decide (1 ≤ a0) = true := decide_eq_true c2
  clear c2
  obtain rfl := Option.some.inj H
  go_enter Try.func49, Try.ntmps49
  go_wp2
  go_ret
  exact ⟨by first | rfl | (simp; done) | (simp [*]; done), by repeat (first | exact Drawn0.refl _ | apply Drawn0.step)⟩
 ·rw [if_neg c2] at H
  have c2b0 : decide (1 ≤ a0) = false := decide_eq_false c2
  clear c2
  obtain rfl := Option.some.inj H
  go_enter Try.func49, Try.ntmps49
  go_wp2
  go_ret
  exact ⟨by first | rfl | (simp; done) | (simp [*]; done), by repeat (first | exact Drawn0.refl _ | apply Drawn0.step)⟩

/-! ### bytes_Clone: function 50 -/
-- by hand
def bytes_Clone.f (l0 : List Int) : Option (List Int) := if l0.length < 140737488355328 then some l0 else none
set_option maxHeartbeats 4000000 in
theorem bytes_Clone.calls (A0 : Option Addr) (c0 : Nat) (l0 : List Int) (r : List Int) (w : World) (hr0 : Kd.C (Kd.int .u8) w A0 l0.length l0) (hc0 : l0.length ≤ c0) (h : bytes_Clone.f l0 = some r) :
  Calls Try.prog 50 #[.slice A0 l0.length c0] w fun e w' => ∃ v0_ : Value, e = .returned v0_ ∧ Kd.R (Kd.int .u8) 5 w' w.heap.size (fun _ => True) v0_ r ∧ Below w.heap.size w w' := by
 have hl : l0.length < 140737488355328 := by
  unfold bytes_Clone.f at h
  split at h
  ·assumption
  ·cases h
 obtain rfl : l0 = r := by
  unfold bytes_Clone.f at h
  rw [if_pos hl] at h
  exact Option.some.inj h
 clear h
 have HR0 := Aside0.mk hr0
 clear hr0
 have hq := fun (W : World) (n c : Nat) => Lib.run_eql_slice_nil (P := Try.prog) W 25 5 A0 n c 0 0 Try.underlying25
 cases A0 with
 | none =>
  have h0 : l0 = [] := by
   rcases Nat.eq_zero_or_pos l0.length with h0 | h0
   ·exact List.eq_nil_of_length_eq_zero h0
   ·obtain ⟨_, he, _⟩ := HR0.out.2.2 h0
    cases he
  subst h0
  go_enter Try.func50, Try.ntmps50
  go_wp2
  go_ret
  exact ⟨_, rfl, Kd.R_nil _ _ _ _ _, Below.refl _ _⟩
 | some ad =>
  go_enter Try.func50, Try.ntmps50
  have HB := Aside0.mk (Below.refl w.heap.size w)
  go_wp2_with (first | ((with_reducible refine gate_dst (N := 5) rfl ?_); refine Kd.R_lit (Kd.int .u8) _ 5 ?hg (N := 5) ?hd (xs := ([] : List Int)) (inner := []) (ok := fun _ => True) (okp := fun _ => True) ?hr ?hp (fun _ hk => hk) trivial (Below.refl _ _) (Nat.le_refl _) (by simp) ?_; (case hd => rfl); (case hg => rfl); (case hr => first | (go_simp; done) | (go_simp; rfl)); (case hp => exact (Reps.none _ _)); intro v1 w1 ho12 hb hg_ hnew_; clear hg_ hnew_; have n0_ := Aside0.mk (Kd.R_lower ho12 (below_size (by repeat (first | (with_reducible first | exact HB.out | apply below_alloc | apply pw_below_drewN | apply below_drew1) | exact HB.out)))); have n1_ := Aside0.mk (below_step (by repeat (first | (with_reducible first | exact HB.out | apply below_alloc | apply pw_below_drewN | apply below_drew1) | exact HB.out)) hb); clear HB; have HO1 := n0_; have HB := n1_; clear n0_ n1_; clear hb ho12) | ((with_reducible refine gate_builtin (b := .append) (xs := #[.tmp 5, .tmp 6]) rfl ?_); at_builtin; refine Kd.R_append_rows (Kd.int .u8) (w0 := w) w.heap.size rfl (.tmp 5) (.tmp 6) 25 5 (.int .u8 0) 1 rfl Try.underlying25 info5 rfl (by decide) (by omega) v1 [] l0 _ _ _ (fun _ => True) (fun _ => False) rfl rfl ?aO ?aR (fun _ _ h => h) (fun _ h => h.elim) ?aF ?aB ?aS ?aL ?_; (case aR => (repeat (first | exact (Kd.C_below HR0.out HB.out) | (with_reducible apply Kd.C_alloc) | (with_reducible apply Kd.C_drewN) | (with_reducible apply Kd.C_drew)))); (case aB => exact (by repeat (first | (with_reducible first | exact HB.out | apply below_alloc | apply pw_below_drewN | apply below_drew1) | exact HB.out))); (case aF => exact (fun _ _ => trivial)); (case aO => exact (by (with_reducible repeat (first | apply Kd.R_alloc | apply Kd.R_drewN | apply Kd.R_drew)); exact HO1.out)); (case aS => exact (below_size (by repeat (first | (with_reducible first | exact HB.out | apply below_alloc | apply pw_below_drewN | apply below_drew1) | exact HB.out)))); (case aL => simp only [List.length_nil]; omega); intro v2 w2 ho hb hg hat; have n0_ := Aside0.mk (hb); have n1_ := Aside0.mk (ho); clear HB; clear HO1; have HB := n0_; have HO2 := n1_; clear n0_ n1_; clear ho hb hg hat))
  go_ret
  exact ⟨_, rfl, by simpa using HO2.out, HB.out⟩

/-! ### pack_Put: function 37 -/
mutual
def pack_Put.j0 : Nat → List Int → Int → Int → Bool → Option (List Int × Int)
 | 0, _, _, _, _ => none
 | k + 1, x0, x1, x2, x23 => if x23 = true then (some (([] : List Int), 60)) else ((bytes_Clone.f x0).bind fun t111 => (pack_Put.l0 k x1 x2 t111 x2 0))
def pack_Put.l0 : Nat → Int → Int → List Int → Int → Int → Option (List Int × Int)
 | 0, _, _, _, _, _ => none
 | k + 1, x1, x2, x8, x26, x27 => if x27 < x26 then (if 0 ≤ (wrap64 (8 * (wrap64 ((wrap64 (x2 - 1)) - x27)))) then (if x8.length < 140737488355328 then (pack_Put.l0 k x1 x2 (x8 ++ [(shr .i64 x1 (wrap64 (8 * (wrap64 ((wrap64 (x2 - 1)) - x27))))) % 256]) x26 (wrap64 (x27 + 1))) else (none)) else (none)) else (some (x8, 0))
end
def pack_Put.f (k : Nat) (l0 : List Int) (a1 : Int) (a2 : Int) : Option (List Int × Int) := (pack_sized.f a2).bind fun t110 => (if t110 = true then (if a1 < 0 then (pack_Put.j0 k l0 a1 a2 true) else (if 0 ≤ (wrap64 (8 * a2)) then (pack_Put.j0 k l0 a1 a2 (decide ((shr .i64 a1 (wrap64 (8 * a2))) > 0))) else (none))) else (pack_Put.j0 k l0 a1 a2 true))
theorem pack_Put.mono_l : ∀ k, (∀ y0 y1 y2 y3, LeO (pack_Put.j0 k y0 y1 y2 y3) (pack_Put.j0 (k + 1) y0 y1 y2 y3)) ∧ (∀ y0 y1 y2 y3 y4, LeO (pack_Put.l0 k y0 y1 y2 y3 y4) (pack_Put.l0 (k + 1) y0 y1 y2 y3 y4))
 | 0 => ⟨fun _ _ _ _ r h => by simp [pack_Put.j0] at h, fun _ _ _ _ _ r h => by simp [pack_Put.l0] at h⟩
 | k + 1 => by
  obtain ⟨ih0, ih1⟩ := pack_Put.mono_l k
  refine ⟨?_, ?_⟩
  ·intro y0 y1 y2 y3
   unfold pack_Put.j0
   repeat' first
   | (with_reducible exact ih0 _ _ _ _)
   | (with_reducible exact ih1 _ _ _ _ _)
   | (with_reducible exact LeO.refl _)
   | (with_reducible exact LeO.none _)
   | (with_reducible refine LeO.ite ?_ ?_)
   | (with_reducible refine LeO.bind ?_ (fun _ => ?_))
   | exact ih0 _ _ _ _
   | exact ih1 _ _ _ _ _
   | exact LeO.none _
   | refine LeO.ite ?_ ?_
   | refine LeO.bind ?_ (fun _ => ?_)
  ·intro y0 y1 y2 y3 y4
   unfold pack_Put.l0
   repeat' first
   | (with_reducible exact ih0 _ _ _ _)
   | (with_reducible exact ih1 _ _ _ _ _)
   | (with_reducible exact LeO.refl _)
   | (with_reducible exact LeO.none _)
   | (with_reducible refine LeO.ite ?_ ?_)
   | (with_reducible refine LeO.bind ?_ (fun _ => ?_))
   | exact ih0 _ _ _ _
   | exact ih1 _ _ _ _ _
   | exact LeO.none _
   | refine LeO.ite ?_ ?_
   | refine LeO.bind ?_ (fun _ => ?_)
theorem pack_Put.mono : ∀ a0 a1 a2 k, LeO (pack_Put.f k a0 a1 a2) (pack_Put.f (k + 1) a0 a1 a2) := by
 intro a0 a1 a2 k
 obtain ⟨ih0, ih1⟩ := pack_Put.mono_l k
 unfold pack_Put.f
 repeat' first
   | (with_reducible exact ih0 _ _ _ _)
   | (with_reducible exact ih1 _ _ _ _ _)
   | (with_reducible exact LeO.refl _)
   | (with_reducible exact LeO.none _)
   | (with_reducible refine LeO.ite ?_ ?_)
   | (with_reducible refine LeO.bind ?_ (fun _ => ?_))
   | exact ih0 _ _ _ _
   | exact ih1 _ _ _ _ _
   | exact LeO.none _
   | refine LeO.ite ?_ ?_
   | refine LeO.bind ?_ (fun _ => ?_)
set_option maxHeartbeats 8000000 in
set_option maxRecDepth 100000 in
theorem pack_Put.calls (k : Nat) (A0 : Option Addr) (c0 : Nat) (l0 : List Int) (a1 : Int) (a2 : Int) (r1 : List Int) (r2 : Int) (w : World) (hr0 : Kd.C (Kd.int .u8) w A0 l0.length l0) (hc0 : l0.length ≤ c0) (h : pack_Put.f k l0 a1 a2 = some (r1, r2)) :
  Calls Try.prog 37 #[.slice A0 l0.length c0, .int .i64 a1, .int .i64 a2] w fun e w' => ∃ v0_ : Value, e = .returned (.tuple #[v0_, .int .i64 r2]) ∧ Kd.R (Kd.int .u8) 5 w' w.heap.size (fun _ => True) v0_ r1 ∧ Below w.heap.size w w' := by
 have HR0 := Aside0.mk hr0
 have HC0 := Aside0.mk hc0
 clear hr0 hc0
 have HB := Aside0.mk (Below.refl w.heap.size w)
 have H : ((pack_sized.f a2).bind fun t110 => (if t110 = true then (if a1 < 0 then (pack_Put.j0 k l0 a1 a2 true) else (if 0 ≤ (wrap64 (8 * a2)) then (pack_Put.j0 k l0 a1 a2 (decide ((shr .i64 a1 (wrap64 (8 * a2))) > 0))) else (none))) else (pack_Put.j0 k l0 a1 a2 true))) = some (r1, r2) := h
 clear h
 have HC4 := Aside0.mk H
 clear H
 go_enter Try.func37, Try.ntmps37
 go_upto_region 1 with (fail)
 go_cut [23] (fun v23 wc => ∃ (kq : Nat) (x23_3 : Bool), v23 = .bool x23_3 ∧ Aside0 (pack_Put.j0 kq l0 a1 a2 x23_3 = some (r1, r2)) ∧ Aside0 (kq ≤ k) ∧ Aside0 (Below w.heap.size w wc))
 case first =>
  have H := HC4.out
  clear HC4
  replace H := Option.bind_eq_some_iff.mp H
  obtain ⟨t110, A50, H⟩ := H
  replace H : (if t110 = true then (if a1 < 0 then (pack_Put.j0 k l0 a1 a2 true) else (if 0 ≤ (wrap64 (8 * a2)) then (pack_Put.j0 k l0 a1 a2 (decide ((shr .i64 a1 (wrap64 (8 * a2))) > 0))) else (none))) else (pack_Put.j0 k l0 a1 a2 true)) = some (r1, r2) := H
  have A5 := Aside0.mk A50
  clear A50
  by_cases c6 : t110 = true
  ·subst c6
   have H1 : (if a1 < 0 then (pack_Put.j0 k l0 a1 a2 true) else (if 0 ≤ (wrap64 (8 * a2)) then (pack_Put.j0 k l0 a1 a2 (decide ((shr .i64 a1 (wrap64 (8 * a2))) > 0))) else (none))) = some (r1, r2) := by rw [if_pos rfl] at H; exact H
   clear H
   have H := H1
   clear H1
   by_cases c7 : a1 < 0
   ·rw [if_pos c7] at H
    have c7b0 : decide (a1 < 0) = true := decide_eq_true c7
    clear c7
    (first | rw [c7b0] | (simp only [i64_w, i32_w]; rw [c7b0]) | skip)
    have H' := Aside0.mk H
    clear H
    go_wp2_with (first | ((with_reducible refine gate_callee (f := 49) rfl ?_); refine goesL_ (some 11) rfl rfl Try.func49 (by kernel_rfl) rfl #[.int .i64 a2] rfl (by (try simp only [List.map_toArray, List.map_cons, List.map_nil]); first | done | rfl | (simp only [List.length_drop, List.length_take]; rfl)) ?_; (with_reducible refine (pack_sized.calls a2 true _ A5.out).mono ?_); rintro e w' ⟨rfl, ⟨nd, rfl⟩⟩; refine ⟨_, rfl, ?_⟩))
    go_meet
    case rel => exact ⟨_, (true), (by first | rfl | (simp; done) | (simp [*]; done)), H', ⟨by first | omega | exact Nat.le_refl _⟩, ⟨by repeat (first | (with_reducible first | exact HB.out | apply below_alloc | apply pw_below_drewN | apply below_drew1) | exact HB.out)⟩⟩
   ·rw [if_neg c7] at H
    have c7b0 : decide (a1 < 0) = false := decide_eq_false c7
    clear c7
    (first | rw [c7b0] | (simp only [i64_w, i32_w]; rw [c7b0]) | skip)
    obtain ⟨ji8, hji8⟩ : ∃ j_ : Int, (wrap64 (8 * a2)) = j_ := ⟨_, rfl⟩
    replace H : (if 0 ≤ (ji8) then (pack_Put.j0 k l0 a1 a2 (decide ((shr .i64 a1 (ji8)) > 0))) else (none)) = some (r1, r2) := by first | (rw [hji8] at H; exact H) | (simp only [hji8] at H ⊢; exact H)
    (try rw [hji8] at A5)
    have hji8w : (IntKind.i64.wrap (8 * a2)) = ji8 := (i64_w _).trans hji8
    by_cases c9 : 0 ≤ (ji8)
    ·rw [if_pos c9] at H
     have c9b0 := eq_true c9
     have c9b1 : decide (0 ≤ (ji8)) = true := decide_eq_true c9
     clear c9
     obtain ⟨ji10, hji10⟩ : ∃ j_ : Int, (shr .i64 a1 (ji8)) = j_ := ⟨_, rfl⟩
     replace H : (pack_Put.j0 k l0 a1 a2 (decide ((ji10) > 0))) = some (r1, r2) := by first | (rw [hji10] at H; exact H) | (simp only [hji10] at H ⊢; exact H)
     (try rw [hji10] at A5)
     have hji10_ : (a1 / 2 ^ min (ji8).toNat 64) = ji10 := hji10
     have hji10z : (ji8) ≤ 64 → (a1 / 2 ^ (ji8).toNat) = ji10 := shr_small hji10
     have H' := Aside0.mk H
     clear H
     go_wp2_with (first | ((with_reducible refine gate_callee (f := 49) rfl ?_); refine goesL_ (some 11) rfl rfl Try.func49 (by kernel_rfl) rfl #[.int .i64 a2] rfl (by (try simp only [List.map_toArray, List.map_cons, List.map_nil]); first | done | rfl | (simp only [List.length_drop, List.length_take]; rfl)) ?_; (with_reducible refine (pack_sized.calls a2 true _ A5.out).mono ?_); rintro e w' ⟨rfl, ⟨nd, rfl⟩⟩; refine ⟨_, rfl, ?_⟩))
     go_meet
     case rel => exact ⟨_, (decide ((ji10) > 0)), (by first | rfl | (simp; done) | (simp only [← hji10] <;> (first | rfl | simp)) | (simp [*]; done)), H', ⟨by first | omega | exact Nat.le_refl _⟩, ⟨by repeat (first | (with_reducible first | exact HB.out | apply below_alloc | apply pw_below_drewN | apply below_drew1) | exact HB.out)⟩⟩
    ·rw [if_neg c9] at H
     exact absurd H (by simp)
  ·replace c6 := Bool.eq_false_iff.mpr c6
   subst c6
   have H1 : (pack_Put.j0 k l0 a1 a2 true) = some (r1, r2) := by rw [if_neg (show ¬ (false = true) by decide)] at H; exact H
   clear H
   have H := H1
   clear H1
   have H' := Aside0.mk H
   clear H
   go_wp2_with (first | ((with_reducible refine gate_callee (f := 49) rfl ?_); refine goesL_ (some 11) rfl rfl Try.func49 (by kernel_rfl) rfl #[.int .i64 a2] rfl (by (try simp only [List.map_toArray, List.map_cons, List.map_nil]); first | done | rfl | (simp only [List.length_drop, List.length_take]; rfl)) ?_; (with_reducible refine (pack_sized.calls a2 false _ A5.out).mono ?_); rintro e w' ⟨rfl, ⟨nd, rfl⟩⟩; refine ⟨_, rfl, ?_⟩))
   go_meet
   case rel => exact ⟨_, (true), (by first | rfl | (simp; done) | (simp [*]; done)), H', ⟨by first | omega | exact Nat.le_refl _⟩, ⟨by repeat (first | (with_reducible first | exact HB.out | apply below_alloc | apply pw_below_drewN | apply below_drew1) | exact HB.out)⟩⟩
 case rest =>
  clear HC4
  try clear p2
  try clear c3
  try clear c4
  try clear c6
  try clear p6
  try clear c7
  try clear c7b0
  try clear c9
  try clear c9b0
  try clear c9b1
  obtain ⟨kq, x23_3, rfl, HA, HJ3, HB⟩ := hcut
  cases kq with
  | zero => exact absurd HA.out (by simp [pack_Put.j0])
  | succ kj3 =>
   have H := HA.out
   clear HA
   simp only [pack_Put.j0] at H
   by_cases c11 : x23_3 = true
   ·subst c11
    have H1 : (some (([] : List Int), 60)) = some (r1, r2) := by rw [if_pos rfl] at H; exact H
    clear H
    have H := H1
    clear H1
    simp only [Option.some.injEq, Prod.mk.injEq] at H
    obtain ⟨rfl, rfl⟩ := H
    go_wp2
    go_ret2
    exact ⟨_, by first | rfl | (simp [errW_none, errW_some] <;> rfl) | (simp [*, errW_none, errW_some] <;> rfl), by first | exact Kd.R_nil _ _ _ _ _ | exact Kd.N_nil _ _ _ _ _ | exact Kd.V_nil _ _ _ _ _ | exact Kd.Q_nil _ _ _ _ _ | exact Kd.S_nil _ _ _ _ _, by repeat (first | (with_reducible first | exact HB.out | apply below_alloc | apply pw_below_drewN | apply below_drew1) | exact HB.out)⟩
   ·replace c11 := Bool.eq_false_iff.mpr c11
    subst c11
    have H1 : ((bytes_Clone.f l0).bind fun t111 => (pack_Put.l0 kj3 a1 a2 t111 a2 0)) = some (r1, r2) := by rw [if_neg (show ¬ (false = true) by decide)] at H; exact H
    clear H
    have H := H1
    clear H1
    replace H := Option.bind_eq_some_iff.mp H
    obtain ⟨t111, A120, H⟩ := H
    replace H : (pack_Put.l0 kj3 a1 a2 t111 a2 0) = some (r1, r2) := H
    have A12 := Aside0.mk A120
    clear A120
    have H' := Aside0.mk H
    clear H
    go_wp2_with (first | ((with_reducible refine gate_callee (f := 50) rfl ?_); refine goesL_ (some 25) rfl rfl Try.func50 (by kernel_rfl) rfl #[.slice A0 l0.length c0] rfl (by (try simp only [List.map_toArray, List.map_cons, List.map_nil]); first | done | rfl | (simp only [List.length_drop, List.length_take]; rfl)) ?_; (with_reducible refine (bytes_Clone.calls _ _ l0 t111 _ ?side1 ?side2 A12.out).mono ?_); (case side1 => repeat (first | exact (Kd.C_below HR0.out HB.out) | (with_reducible apply Kd.C_alloc) | (with_reducible apply Kd.C_drewN) | (with_reducible apply Kd.C_drew))); (case side2 => exact HC0.out); rintro e w13 ⟨v112, rfl, ho0, hb⟩; refine ⟨_, rfl, ?_⟩; have n0_ := Aside0.mk (Kd.R_lower ho0 (below_size (by repeat (first | (with_reducible first | exact HB.out | apply below_alloc | apply pw_below_drewN | apply below_drew1) | exact HB.out)))); have n1_ := Aside0.mk (below_step (by repeat (first | (with_reducible first | exact HB.out | apply below_alloc | apply pw_below_drewN | apply below_drew1) | exact HB.out)) hb); clear HB; have HO113 := n0_; have HB := n1_; clear n0_ n1_; (try clear hb); (try clear hb2); (try clear hk); (try clear hi); (try clear ho0)))
    go_loopg [8, 27] kj3 (fun kq v8 v27 w' => ∃ (x8_2 : List Int) (x27_2 : Int), v27 = .int .i64 x27_2 ∧ Aside0 (pack_Put.l0 kq a1 a2 x8_2 a2 x27_2 = some (r1, r2)) ∧ Aside0 (kq ≤ kj3) ∧ Aside0 (Kd.R (Kd.int .u8) 5 w' w.heap.size (fun _ => True) v8 x8_2) ∧ Aside0 (Below w.heap.size w w'))
    case atStart => exact ⟨(t111), (0), (by first | rfl | (simp; done) | (simp [*]; done)), H', ⟨Nat.le_refl _⟩, ⟨by (with_reducible repeat (first | apply Kd.R_alloc | apply Kd.R_drewN | apply Kd.R_drew)); exact HO113.out⟩, ⟨by repeat (first | (with_reducible first | exact HB.out | apply below_alloc | apply pw_below_drewN | apply below_drew1) | exact HB.out)⟩⟩
    case round =>
     clear H'
     try clear c1
     try clear p2
     try clear c3
     try clear c4
     try clear c5
     try clear c6
     try clear p6
     try clear c7
     try clear c7b0
     try clear c9
     try clear c9b0
     try clear c9b1
     try clear c11
     try clear p2
     try clear p6
     obtain ⟨x8_2, x27_2, rfl, HA, HK2, HO_8, HB⟩ := hrel
     cases gk with
     | zero => exact absurd HA.out (by simp [pack_Put.l0])
     | succ k2 =>
      have H := HA.out
      clear HA
      simp only [pack_Put.l0] at H
      by_cases c14 : x27_2 < a2
      ·rw [if_pos c14] at H
       have c14b0 : decide (x27_2 < a2) = true := decide_eq_true c14
       clear c14
       obtain ⟨ji15, hji15⟩ : ∃ j_ : Int, (wrap64 (8 * (wrap64 ((wrap64 (a2 - 1)) - x27_2)))) = j_ := ⟨_, rfl⟩
       replace H : (if 0 ≤ (ji15) then (if x8_2.length < 140737488355328 then (pack_Put.l0 k2 a1 a2 (x8_2 ++ [(shr .i64 a1 (ji15)) % 256]) a2 (wrap64 (x27_2 + 1))) else (none)) else (none)) = some (r1, r2) := by first | (rw [hji15] at H; exact H) | (simp only [hji15] at H ⊢; exact H)
       have hji15w : (IntKind.i64.wrap (8 * (wrap64 ((wrap64 (a2 - 1)) - x27_2)))) = ji15 := (i64_w _).trans hji15
       by_cases c16 : 0 ≤ (ji15)
       ·rw [if_pos c16] at H
        have c16b0 := eq_true c16
        have c16b1 : decide (0 ≤ (ji15)) = true := decide_eq_true c16
        clear c16
        obtain ⟨ji17, hji17⟩ : ∃ j_ : Int, (shr .i64 a1 (ji15)) = j_ := ⟨_, rfl⟩
        replace H : (if x8_2.length < 140737488355328 then (pack_Put.l0 k2 a1 a2 (x8_2 ++ [(ji17) % 256]) a2 (wrap64 (x27_2 + 1))) else (none)) = some (r1, r2) := by first | (rw [hji17] at H; exact H) | (simp only [hji17] at H ⊢; exact H)
        have hji17_ : (a1 / 2 ^ min (ji15).toNat 64) = ji17 := hji17
        have hji17z : (ji15) ≤ 64 → (a1 / 2 ^ (ji15).toNat) = ji17 := shr_small hji17
        by_cases c18 : x8_2.length < 140737488355328
        ·rw [if_pos c18] at H
         have LMc18 := Aside0.mk c18
         clear c18
         obtain ⟨y114, hy114⟩ : ∃ y_ : List Int, y_ = (x8_2 ++ [(ji17) % 256]) := ⟨_, rfl⟩
         replace H : (pack_Put.l0 k2 a1 a2 y114 a2 (wrap64 (x27_2 + 1))) = some (r1, r2) := by first | (rw [hy114]; with_reducible exact H) | (have H2_ := (Option.bind_some _ _).symm.trans H; rw [hy114]; with_reducible exact H2_) | (have H2_ := (Option.bind_some _ _).symm.trans H; with_reducible exact H2_) | with_reducible exact H | (rw [hy114]; exact H) | exact H
         have Ny114 := Aside0.mk hy114
         clear hy114
         have H' := Aside0.mk H
         clear H
         go_wp2_with (first | ((with_reducible refine gate_builtin (b := .append) (xs := #[.tmp 30, .tmp 39]) rfl ?_); at_builtin; refine Kd.R_append (Kd.int .u8) (w0 := w) w.heap.size rfl (.tmp 30) (.tmp 39) 25 5 (.int .u8 0) 1 rfl Try.underlying25 info5 rfl (by decide) (by omega) u8 x8_2 ((ji17) % 256) [.int .u8 ((ji17) % 256)] (fun _ => True) (fun _ => False) rfl rfl ?aP (fun _ hk => hk.elim) ?aF ?aO ?aB ?aS ?aL ?_; (case aP => exact rfl); (case aB => exact (by repeat (first | (with_reducible first | exact HB.out | apply below_alloc | apply pw_below_drewN | apply below_drew1) | exact HB.out))); (case aF => exact (fun _ _ => trivial)); (case aO => exact (by (with_reducible repeat (first | apply Kd.R_alloc | apply Kd.R_drewN | apply Kd.R_drew)); exact HO_8.out)); (case aS => exact (below_size (by repeat (first | (with_reducible first | exact HB.out | apply below_alloc | apply pw_below_drewN | apply below_drew1) | exact HB.out)))); (case aL => have := LMc18.out; omega); intro v115 w19 ho hb hg hat; rw [← Ny114.out] at ho; have n0_ := Aside0.mk (hb); have n1_ := Aside0.mk (ho); clear HB; clear HO_8; have HB := n0_; have HO116 := n1_; clear n0_ n1_; clear ho hb hg hat))
         go_roundg k2
         case measure => have := HJ3.out; have := HK2.out; omega
         case rel => exact ⟨(y114), (wrap64 (x27_2 + 1)), (by first | rfl | (simp; done) | (simp [*]; done)), H', ⟨by have := HJ3.out; have := HK2.out; omega⟩, ⟨by (with_reducible repeat (first | apply Kd.R_alloc | apply Kd.R_drewN | apply Kd.R_drew)); exact HO116.out⟩, ⟨by repeat (first | (with_reducible first | exact HB.out | apply below_alloc | apply pw_below_drewN | apply below_drew1) | exact HB.out)⟩⟩
        ·rw [if_neg c18] at H
         exact absurd H (by simp)
       ·rw [if_neg c16] at H
        exact absurd H (by simp)
      ·rw [if_neg c14] at H
       have c14b0 : decide (x27_2 < a2) = false := decide_eq_false c14
       clear c14
       simp only [Option.some.injEq, Prod.mk.injEq] at H
       obtain ⟨rfl, rfl⟩ := H
       go_wp2
       go_ret2
       exact ⟨_, by first | rfl | (simp [errW_none, errW_some] <;> rfl) | (simp [*, errW_none, errW_some] <;> rfl), by (with_reducible repeat (first | apply Kd.R_alloc | apply Kd.R_drewN | apply Kd.R_drew)); exact HO_8.out, by repeat (first | (with_reducible first | exact HB.out | apply below_alloc | apply pw_below_drewN | apply below_drew1) | exact HB.out)⟩

/-! ### pack_ways_1: function 56 -/
def pack_ways_1.f (a0 : Int) : Option (Int) := some ((wrap32 (a0)) % 4294967296)
set_option maxHeartbeats 8000000 in
set_option maxRecDepth 100000 in
theorem pack_ways_1.calls (a0 : Int) (r : Int) (w : World) (h : pack_ways_1.f a0 = some r) :
  Calls Try.prog 56 #[.int .i64 a0] w fun e w' => e = .returned (.int .i64 r) ∧ Drawn0 w w' := by
 have H : (some ((wrap32 (a0)) % 4294967296)) = some r := h
 clear h
 obtain rfl := Option.some.inj H
 go_enter Try.func56, Try.ntmps56
 go_wp2
 go_ret
 exact ⟨by first | rfl | (simp; done) | (simp [*]; done), by repeat (first | exact Drawn0.refl _ | apply Drawn0.step)⟩

/-! ### pack_ways_2: function 57 -/
def pack_ways_2.f (a0 : Int) : Option (Int) := some (wrap64 (wrap32 ((a0) % 4294967296)))
set_option maxHeartbeats 8000000 in
set_option maxRecDepth 100000 in
theorem pack_ways_2.calls (a0 : Int) (r : Int) (w : World) (h : pack_ways_2.f a0 = some r) :
  Calls Try.prog 57 #[.int .i64 a0] w fun e w' => e = .returned (.int .i64 r) ∧ Drawn0 w w' := by
 have H : (some (wrap64 (wrap32 ((a0) % 4294967296)))) = some r := h
 clear h
 obtain rfl := Option.some.inj H
 go_enter Try.func57, Try.ntmps57
 go_wp2
 go_ret
 exact ⟨by first | rfl | (simp; done) | (simp [*]; done), by repeat (first | exact Drawn0.refl _ | apply Drawn0.step)⟩

/-! ### pack_ways: function 48 -/
-- by hand
theorem pack_ways.c1 (a : Int) (w : World) : Calls Try.prog 56 #[.int .i64 a] w fun e w' => e = .returned (.int .i64 (wrap32 a % 4294967296)) ∧ w = w' := by
 go_enter Try.func56, Try.ntmps56
 go_wp2
 go_ret
 exact ⟨rfl, rfl⟩
theorem pack_ways.c2 (a : Int) (w : World) : Calls Try.prog 57 #[.int .i64 a] w fun e w' => e = .returned (.int .i64 (wrap64 (wrap32 (a % 4294967296)))) ∧ w = w' := by
 go_enter Try.func57, Try.ntmps57
 go_wp2
 go_ret
 exact ⟨rfl, rfl⟩
theorem pack_ways.calls (w : World) : Calls Try.prog 48 #[] w fun e w' => e = .returned (.tuple #[.func (.func 56) #[] #[], .func (.func 57) #[] #[]]) ∧ w = w' := by
 go_enter Try.func48, Try.ntmps48
 go_wp2
 go_ret2
 exact ⟨rfl, rfl⟩

/-! ### pack_PutFix: function 36 -/
-- by hand
def pack_PutFix.f (k : Nat) (l0 : List Int) (a1 : Int) : Option (List Int × Int) := if a1 < -2147483648 then some ([], 60) else if a1 ≥ 2147483648 then some ([], 60) else pack_Put.f k l0 (wrap32 a1 % 4294967296) 4
theorem pack_PutFix.mono : ∀ a0 a1 k, LeO (pack_PutFix.f k a0 a1) (pack_PutFix.f (k + 1) a0 a1) := by
 intro a0 a1 k
 unfold pack_PutFix.f
 repeat' first
  | (with_reducible exact pack_Put.mono _ _ _ _)
  | (with_reducible exact LeO.refl _)
  | (with_reducible refine LeO.ite ?_ ?_)
set_option maxHeartbeats 4000000 in
theorem pack_PutFix.calls (k : Nat) (A0 : Option Addr) (c0 : Nat) (l0 : List Int) (a1 : Int) (r1 : List Int) (r2 : Int) (w : World) (hr0 : Kd.C (Kd.int .u8) w A0 l0.length l0) (hc0 : l0.length ≤ c0) (h : pack_PutFix.f k l0 a1 = some (r1, r2)) :
  Calls Try.prog 36 #[.slice A0 l0.length c0, .int .i64 a1] w fun e w' => ∃ v0_ : Value, e = .returned (.tuple #[v0_, .int .i64 r2]) ∧ Kd.R (Kd.int .u8) 5 w' w.heap.size (fun _ => True) v0_ r1 ∧ Below w.heap.size w w' := by
 have HR0 := Aside0.mk hr0
 have HC0 := Aside0.mk hc0
 clear hr0 hc0
 unfold pack_PutFix.f at h
 by_cases c1 : a1 < -2147483648
 ·rw [if_pos c1] at h
  simp only [Option.some.injEq, Prod.mk.injEq] at h
  obtain ⟨rfl, rfl⟩ := h
  go_enter Try.func36, Try.ntmps36
  go_wp2
  go_ret2
  exact ⟨_, rfl, Kd.R_nil _ _ _ _ _, Below.refl _ _⟩
 ·rw [if_neg c1] at h
  by_cases c2 : a1 ≥ 2147483648
  ·rw [if_pos c2] at h
   simp only [Option.some.injEq, Prod.mk.injEq] at h
   obtain ⟨rfl, rfl⟩ := h
   go_enter Try.func36, Try.ntmps36
   go_wp2
   go_ret2
   exact ⟨_, rfl, Kd.R_nil _ _ _ _ _, Below.refl _ _⟩
  ·rw [if_neg c2] at h
   have H := Aside0.mk h
   clear h
   go_enter Try.func36, Try.ntmps36
   go_wp2_with (first | (go_at_call 48; (with_reducible refine (pack_ways.calls _).mono ?_); rintro e w' ⟨rfl, rfl⟩) | (go_at_call 56; (with_reducible refine (pack_ways.c1 _ _).mono ?_); rintro e w' ⟨rfl, rfl⟩) | (go_at_call 37; (with_reducible refine (pack_Put.calls k A0 c0 l0 _ 4 r1 r2 _ HR0.out HC0.out H.out).mono ?_); rintro e w' ⟨v0, rfl, hr, hb⟩))
   go_ret2
   exact ⟨_, rfl, hr, hb⟩

/-! ### ship_out_fix: function 20 -/
-- by hand
set_option maxHeartbeats 4000000 in
theorem ship_out_fix.calls (k : Nat) (n : Int) (xs r1 : List Int) (r2 : Int) (g : Nat) (w0 w : World) (hB : Below w0.heap.size w0 w) (h : ship_out_byte.Holds w w0.heap.size g xs) (hp : pack_PutFix.f k [] n = some (r1, r2)) (hl : xs.length + r1.length < 1000000000000) :
  Calls Try.prog 20 #[.pointer (some ⟨g, 0, none⟩), .int .i64 n] w fun e w' => e = .returned (.tuple #[]) ∧ ship_out_byte.Holds w' w0.heap.size g (xs ++ r1) ∧ Below w0.heap.size w0 w' ∧ ship_out_byte.Stays g w w' := by
 obtain ⟨v, h1, h2, h3⟩ := h
 obtain ⟨A, c, e⟩ := Kd.R_slice h3
 subst e
 have hu := Try.underlying50
 have H1 := Aside0.mk h1
 have H2 := Aside0.mk h2
 have HO := Aside0.mk h3
 have HB := Aside0.mk hB
 have HH := Aside0.mk (fun W : World => (show Calls Try.prog 36 #[.slice none 0 0, .int .i64 n] W _ from pack_PutFix.calls k none 0 [] n r1 r2 W (Kd.R_reads' (Kd.R_nil (Kd.int .u8) 0 W 0 (fun _ => True))).2.2 (Nat.le_refl _) hp))
 have HL := Aside0.mk hl
 have hx := blk_cell h1 0
 clear h1 h2 h3 hp hB hl
 go_enter Try.func20, Try.ntmps20
 go_wp2_with (first | (go_at_call 36; (with_reducible refine (HH.out _).mono ?_); rintro e w2 ⟨v2, rfl, hr, hb⟩; obtain ⟨A2, c2, e2⟩ := Kd.R_slice hr; subst e2; have P1 := blk_below H1.out hb; have HP1 := Aside0.mk P1; have hx2 := blk_cell P1 0; have HC2 := Aside0.mk (Kd.R_reads' hr); have n0_ := Aside0.mk (HB.out.trans (hb.mono HB.out.size)); have n1_ := Aside0.mk (Kd.R_below HO.out hb); have HST := Aside0.mk (ship_out_byte.stays_below (g := g) hb); clear hx P1 hr hb HB HO; have HB := n0_; have HO := n1_; clear n0_ n1_) | ((with_reducible refine gate_builtin (b := .append) (xs := #[.tmp 15, .tmp 16]) rfl ?_); at_builtin; refine Kd.R_append_rows (Kd.int .u8) (w0 := w0) w0.heap.size rfl (.tmp 15) (.tmp 16) 25 5 (.int .u8 0) 1 rfl Try.underlying25 info5 rfl (by decide) (by omega) (.slice A xs.length c) xs r1 _ _ _ (fun _ => True) (fun _ => False) rfl rfl ?aO ?aR (fun _ _ h => h) (fun _ h => h.elim) ?aF ?aB ?aS ?aL ?_; (case aR => exact HC2.out.2.2); (case aB => exact (by repeat (first | (with_reducible first | exact HB.out | apply below_alloc | apply pw_below_drewN | apply below_drew1) | exact HB.out))); (case aF => exact (fun _ _ => trivial)); (case aO => exact (by (with_reducible repeat (first | apply Kd.R_alloc | apply Kd.R_drewN | apply Kd.R_drew)); exact HO.out)); (case aS => exact (below_size (by repeat (first | (with_reducible first | exact HB.out | apply below_alloc | apply pw_below_drewN | apply below_drew1) | exact HB.out)))); (case aL => have h9 := HL.out; omega); intro v3 w3 ho hb hg hat; obtain ⟨A3, c3, e3⟩ := Kd.R_slice ho; subst e3; have P2 := (hg.block g (Array.getElem?_eq_some_iff.1 HP1.out).1 (Kd.R_ne HO.out HP1.out (by decide))).trans HP1.out; have HP2 := Aside0.mk P2; have hq := blk_cell P2 0; have hfq := blk_frozen P2; have HG := Aside0.mk hg; have HOO := HO; clear hx2 P2; have n0_ := Aside0.mk (hb); have n1_ := Aside0.mk (ho); clear HB; clear HO; have HB := n0_; have HO3 := n1_; clear n0_ n1_; clear ho hb hg hat))
 go_end0
 have hlen : (xs ++ r1).length = xs.length + r1.length := by simp
 have HO4 := HO3.out
 rw [hlen] at HO4
 refine ⟨rfl, ⟨.slice A3 (xs.length + r1.length) c3, ?_, H2.out, ship_out_byte.R_set HO4 rfl HP2.out (by decide)⟩, HB.out.setCell (p := ⟨g, 0, none⟩) H2.out _, ?_⟩
 ·have := blk_put (cs' := #[.slice A3 (xs.length + r1.length) c3]) HP2.out 0 (.slice A3 (xs.length + r1.length) c3) rfl
  exact this
 ·refine ship_out_byte.stays_t HST.out (ship_out_byte.stays_t (fun k o hk hn hc => (HG.out.block k (Array.getElem?_eq_some_iff.1 hk).1 (fun e => ?_)).trans hk) (ship_out_byte.stays_set _))
  obtain ⟨cells, hcs⟩ := Kd.R_typed HOO.out k e.symm
  rw [hcs] at hk
  exact hc cells (Option.some.inj hk).symm

/-! ### ship_out_two: function 21 -/
-- by hand
set_option maxHeartbeats 4000000 in
theorem ship_out_two.calls (k : Nat) (n : Int) (xs r1 : List Int) (r2 : Int) (g : Nat) (w0 w : World) (hB : Below w0.heap.size w0 w) (h : ship_out_byte.Holds w w0.heap.size g xs) (hp : pack_Put.f k xs n 2 = some (r1, r2)) :
  Calls Try.prog 21 #[.pointer (some ⟨g, 0, none⟩), .int .i64 n] w fun e w' => e = .returned (.tuple #[]) ∧ ship_out_byte.Holds w' w0.heap.size g r1 ∧ Below w0.heap.size w0 w' ∧ ship_out_byte.Stays g w w' := by
 obtain ⟨v, h1, h2, h3⟩ := h
 obtain ⟨A, c, e⟩ := Kd.R_slice h3
 subst e
 have hu := Try.underlying50
 have H1 := Aside0.mk h1
 have H2 := Aside0.mk h2
 have HB := Aside0.mk hB
 have HR := Aside0.mk (Kd.R_reads' h3)
 have HH := Aside0.mk hp
 have hx := blk_cell h1 0
 clear h1 h2 h3 hp hB
 go_enter Try.func21, Try.ntmps21
 go_wp2_with (first | (go_at_call 37; (with_reducible refine (pack_Put.calls k A c xs n 2 r1 r2 _ HR.out.2.2 HR.out.2.1 HH.out).mono ?_); rintro e w2 ⟨v2, rfl, hr, hb⟩; obtain ⟨A2, c2, e2⟩ := Kd.R_slice hr; subst e2; have P2 := blk_below H1.out hb; have HP2 := Aside0.mk P2; have hq := blk_cell P2 0; have hfq := blk_frozen P2; have HR2 := Aside0.mk (Kd.R_lower hr HB.out.size); have HB2 := Aside0.mk (HB.out.trans (hb.mono HB.out.size)); have HST := Aside0.mk (ship_out_byte.stays_below (g := g) hb); clear hx P2 hr hb))
 go_end0
 refine ⟨rfl, ⟨.slice A2 r1.length c2, ?_, H2.out, ship_out_byte.R_set HR2.out rfl HP2.out (by decide)⟩, HB2.out.setCell (p := ⟨g, 0, none⟩) H2.out _, ship_out_byte.stays_t HST.out (ship_out_byte.stays_set _)⟩
 have := blk_put (cs' := #[.slice A2 r1.length c2]) HP2.out 0 (.slice A2 r1.length c2) rfl
 exact this

end Go.Proofs.Ytihiiidbhhlfnaa.G
