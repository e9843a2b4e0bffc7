/- Contracts of the functions of this seat: what each call computes, as a plain Lean function. Made by this session's own generator. -/
import Derived.Test.YtanhafkoohnjhaaGx0
import Derived.Test.YtanhafkoohnjhaaGx1
namespace Go.Proofs.Ytanhafkoohnjhaa.G
open Go.RowKit Go.Proofs.YtanhafkoohnjhaaMy Go.Proofs.YtanhafkoohnjhaaW.PrintWords Go.Proofs.YtanhafkoohnjhaaW.PrintLast Go.Proofs.YtanhafkoohnjhaaW.PrintMore
attribute [local go_sem] max2_int min2_int max_two min_two max_three min_three max_four min_four   -- for this text's walks alone
set_option linter.unusedVariables false
set_option linter.unusedSimpArgs false

/-! ### text_Write: function 15 -/
-- by hand
/-- A word's bytes behind others: codes from number i on, soft hyphens that are left. -/
def text_Write.put : List Int → Nat → List Int → List Int → List Int
 | [], _, _, out => out
 | c :: cs, i, soft, out => if soft.head? = some (i : Int) then text_Write.put cs (i + 1) soft.tail (out ++ [194, 173] ++ [c % 256]) else text_Write.put cs (i + 1) soft (out ++ [c % 256])
def text_Write.run : List S36 → Nat → List Int → List Int
 | [], _, out => out
 | x :: l, i, out => text_Write.run l (i + 1) (text_Write.put x.f0 0 x.f1 (if 0 < i then out ++ [32] else out))
def text_Write.f (k : Nat) (l0 : List S36) : Option (List Int × Int) :=
 (text_Check.f k l0).bind fun b => if b = true then (if (text_Write.run l0 0 []).length < 1000000000000 then some (text_Write.run l0 0 [], 0) else none) else some ([], 130)
theorem text_Write.mono : ∀ l0 k, LeO (text_Write.f k l0) (text_Write.f (k + 1) l0) := by
 intro l0 k
 unfold text_Write.f
 exact LeO.bind (text_Check.mono _ _) (fun _ => LeO.refl _)
theorem text_Write.put_len (cs : List Int) : ∀ i soft out, out.length ≤ (text_Write.put cs i soft out).length := by
 induction cs with
 | nil => intro i soft out; exact Nat.le_refl _
 | cons c cs ih =>
  intro i soft out
  rw [text_Write.put]
  split
  ·have := ih (i + 1) soft.tail (out ++ [194, 173] ++ [c % 256])
   simp only [List.length_append, List.length_cons, List.length_nil] at this
   omega
  ·have := ih (i + 1) soft (out ++ [c % 256])
   simp only [List.length_append, List.length_cons, List.length_nil] at this
   omega
theorem text_Write.put_two (c : Int) (cs : List Int) (i : Nat) (soft out : List Int) (h : soft.head? = some (i : Int)) : out.length + 3 ≤ (text_Write.put (c :: cs) i soft out).length := by
 rw [text_Write.put, if_pos h]
 have := text_Write.put_len cs (i + 1) soft.tail (out ++ [194, 173] ++ [c % 256])
 simp only [List.length_append, List.length_cons, List.length_nil] at this
 omega
theorem text_Write.run_len (l : List S36) : ∀ i out, out.length ≤ (text_Write.run l i out).length := by
 induction l with
 | nil => intro i out; exact Nat.le_refl _
 | cons x l ih =>
  intro i out
  rw [text_Write.run]
  have h1 := ih (i + 1) (text_Write.put x.f0 0 x.f1 (if 0 < i then out ++ [32] else out))
  have h2 := text_Write.put_len x.f0 0 x.f1 (if 0 < i then out ++ [32] else out)
  have h3 : out.length ≤ (if 0 < i then out ++ [32] else out).length := by
   split
   ·simp
   ·exact Nat.le_refl _
  omega
theorem text_Write.C_lit8 (W : World) (e : TypeId) (xs : List Int) (hm : xs.length ≤ 9223372036854775807) : Kd.C (Kd.int .u8) (W.alloc (.cells (nums .u8 xs).toArray e)) (some ⟨W.heap.size, 0, none⟩) xs.length xs := by
 have h := own_lit W W.heap.size e .u8 xs (Nat.le_refl _) hm
 have h2 : Kd.R (Kd.int .u8) e (W.alloc (.cells (nums .u8 xs).toArray e)) W.heap.size (fun _ => True) (.slice (some ⟨W.heap.size, 0, none⟩) xs.length xs.length) xs := Kd.R_of_own h (fun _ _ => trivial)
 obtain ⟨A, c, he, _, hC⟩ := Kd.R_reads h2
 injection he with he1 he2 he3
 subst he1
 exact hC
/-- A row of numbers keeps where another variable was written. -/
theorem text_Write.apart {k : IntKind} {e t g base : Nat} {ok : Nat → Prop} {v : Value} {xs : List Int} {W W2 : World} {cs : Array Value} (h : (Kd.int k).R e W base ok v xs) (hg : W.heap[g]? = some (.cells cs t (0, 0))) (ht : e ≠ t) (hk : ∀ j, j ≠ g → W2.heap[j]? = W.heap[j]?) : (Kd.int k).R e W2 base ok v xs :=
 Kd.R_mono (Kd.R_step (Kd.R_tight rfl h) (fun j hj _ => hk j (fun e2 => Kd.R_ne h hg ht (by rw [← e2, hj])))) (fun j hj => h.1 j hj.symm)
set_option maxHeartbeats 4000000 in
set_option maxRecDepth 100000 in
theorem text_Write.calls (k : Nat) (A0 : Option Addr) (c0 : Nat) (l0 : List S36) (r1 : List Int) (r2 : Int) (w : World) (hr0 : Kd.C k36 w A0 l0.length l0) (hc0 : l0.length ≤ c0) (h : text_Write.f k l0 = some (r1, r2)) :
  Calls Try.prog 15 #[.slice A0 l0.length c0] w fun e w' => ∃ v0_ : Value, e = .returned (.tuple #[v0_, .int .i64 r2]) ∧ Kd.R (Kd.int .u8) 5 w' w.heap.size (fun _ => True) v0_ r1 ∧ Below w.heap.size w w' := by
 obtain ⟨b, hb, h⟩ := Option.bind_eq_some_iff.mp h
 have HR := Aside0.mk hr0
 have HC := Aside0.mk hc0
 have HB := Aside0.mk (Below.refl w.heap.size w)
 have HK := Aside0.mk (text_Check.calls k A0 c0 l0 b w hr0 hc0 hb)
 have hu := Try.underlying36
 clear hr0 hc0 hb
 cases b with
 | false =>
  rw [if_neg (by decide)] at h
  obtain ⟨rfl, rfl⟩ : [] = r1 ∧ 130 = r2 := by simpa using h
  clear h
  go_enter Try.func15, Try.ntmps15
  go_wp2_with (first | (go_at_call 17; (with_reducible refine HK.out.mono ?_); rintro e w1 ⟨rfl, hb⟩; have HB1 := Aside0.mk hb; clear hb))
  go_ret2
  exact ⟨_, rfl, Kd.R_nil _ _ _ _ _, HB1.out⟩
 | true =>
  rw [if_pos rfl] at h
  split at h
  case isFalse => cases h
  rename_i hlen
  obtain ⟨hr1, rfl⟩ : text_Write.run l0 0 [] = r1 ∧ 0 = r2 := by simpa using h
  rw [hr1] at hlen
  have HL := Aside0.mk hlen
  have HH := Aside0.mk hr1
  clear h hlen hr1
  have hm0 := HR.out.2.1
  go_enter Try.func15, Try.ntmps15
  go_wp2_with (first | (go_at_call 17; (with_reducible refine HK.out.mono ?_); rintro e w1 ⟨rfl, hb⟩; have HB1 := Aside0.mk hb; clear hb HB; have HB := HB1; clear HB1))
  go_loopw [4, 15] (fun v4 v15 wr => ∃ (i : Nat) (xs : List Int), i ≤ l0.length ∧ v15 = .int .i64 i ∧ Aside0 (text_Write.run (l0.drop i) i xs = r1) ∧ Aside0 (Kd.R (Kd.int .u8) 5 wr w.heap.size (fun _ => True) v4 xs) ∧ Aside0 (Below w.heap.size w wr)) (fun _ v15 _ => l0.length - (intOf v15).toNat)
  case atStart => exact ⟨0, [], Nat.zero_le _, rfl, HH, ⟨Kd.R_nil _ _ _ _ _⟩, HB⟩
  case round =>
   clear HB
   obtain ⟨i, xs, hi, rfl, HA, HO, HB⟩ := hrel
   by_cases hlt : i < l0.length
   ·have hltz : (i : Int) < (l0.length : Int) := by omega
    obtain ⟨ad, cc, rfl, hcl, hK, hcc⟩ := C_elem HR.out i hlt
    obtain ⟨x, hx⟩ : ∃ x, x = l0[i] := ⟨_, rfl⟩
    rw [← hx] at hK
    obtain ⟨A1, c1, A2, c2, rfl, hl1, hi1, hl2, hi2⟩ := k36_open hK
    have hcell0 : w.cell? (ad.add (i * 2)) = some (.slice A1 x.f0.length c1) := hcc 0 _ rfl
    have hcell1 : w.cell? ⟨(ad.add (i * 2)).block, (ad.add (i * 2)).off + 1, none⟩ = some (.slice A2 x.f1.length c2) := cell_add1 (by decide) (hcc 1 _ rfl)
    replace hcell0 := (HB.out.cell (World.block_lt_of_cell? w _ hcell0)).trans hcell0
    replace hcell1 := (HB.out.cell (World.block_lt_of_cell? w _ hcell1)).trans hcell1
    obtain ⟨xs', hxs⟩ : ∃ xs', xs' = if 0 < i then xs ++ [32] else xs := ⟨_, rfl⟩
    have HX := Aside0.mk (show text_Write.run (l0.drop (i + 1)) (i + 1) (text_Write.put x.f0 0 x.f1 xs') = r1 from by
     rw [hxs, ← HA.out, List.drop_eq_getElem_cons hlt, ← hx, text_Write.run])
    have hlim : xs'.length ≤ r1.length := by
     rw [← HX.out]
     exact Nat.le_trans (text_Write.put_len _ _ _ _) (text_Write.run_len _ _ _)
    have HLX := Aside0.mk (show xs'.length < 1000000000000 from Nat.lt_of_le_of_lt hlim HL.out)
    have HI1 := Aside0.mk hi1
    have HI2 := Aside0.mk hi2
    have HL1 := Aside0.mk hl1
    have HL2 := Aside0.mk hl2
    clear hcl hK hcc hx hi1 hi2 hl1 hl2 hlim HA
    by_cases h0 : 0 < i
    ·rw [if_pos h0] at hxs
     have h0z : decide (0 < (i : Int)) = true := decide_eq_true (by omega)
     have HXS := Aside0.mk hxs
     clear hxs
     go_upto_region 9 with (first | ((with_reducible refine gate_dst (N := 6) rfl ?_); refine box_event ?hg (N := 6) ?hd (cs := #[.slice none 0 0, .slice none 0 0]) (t := 36) ?hr ?_; (case hd => rfl); (case hg => rfl); (case hr => first | (go_simp; done) | (go_simp; rfl)); intro ga hg wa hbox hb; have HOb := Aside0.mk (Kd.R_below HO.out hb); clear HO; have GEga := Aside0.mk (show w.heap.size ≤ ga from hg ▸ below_size (by repeat (first | (with_reducible first | exact HB.out | apply below_alloc | apply pw_below_drewN | apply below_drew1) | exact HB.out))); have n0_ := Aside0.mk (below_step (by repeat (first | (with_reducible first | exact HB.out | apply below_alloc | apply pw_below_drewN | apply below_drew1) | exact HB.out)) hb); have BKga := Aside0.mk hbox; have hxga := blk_cell hbox; have hyga := blk_frozen hbox; clear HB; have HB := n0_; clear n0_ hb hbox hg) | ((with_reducible refine gate_store (t := 36) rfl ?_); refine store_row_event (base := w.heap.size) rfl rfl 36 _ _ rfl (g := ga) (by rfl) (by rfl) BKga.out (by kernel_rfl) (by rfl) (by rfl) GEga.out ?_; intro ws_ hs_ hk_ hb_; have HO := Aside0.mk (text_Write.apart HOb.out BKga.out (by decide) hk_); clear HOb; have n0_ := Aside0.mk (HB.out.trans hb_); clear HB; have HB := n0_; clear n0_; clear BKga hxga hyga; have BKga := Aside0.mk hs_; have hxga := blk_cell BKga.out; have hyga := blk_frozen BKga.out; clear hs_ hk_ hb_) | ((with_reducible refine gate_builtin (b := .append) (xs := #[.tmp 22, .tmp 23]) rfl ?_); at_builtin; refine Kd.R_append (Kd.int .u8) (w0 := w) w.heap.size rfl (.tmp 22) (.tmp 23) 22 5 (.int .u8 0) 1 rfl Try.underlying22 info5 rfl (by decide) (by omega) u4 xs (32) [.int .u8 (32)] (fun _ => True) (fun _ => False) rfl rfl ?aP (fun _ hk => hk.elim) ?aF ?aO ?aB ?aS ?aL ?_; (case aP => exact rfl); (case aB => exact (by repeat (first | (with_reducible first | exact HB.out | apply below_alloc | apply pw_below_drewN | apply below_drew1) | exact HB.out))); (case aF => exact (fun _ _ => trivial)); (case aO => exact (by (with_reducible repeat (first | apply Kd.R_alloc | apply Kd.R_drewN | apply Kd.R_drew)); exact HO.out)); (case aS => exact (below_size (by repeat (first | (with_reducible first | exact HB.out | apply below_alloc | apply pw_below_drewN | apply below_drew1) | exact HB.out)))); (case aL => have h1 := HLX.out; rw [HXS.out] at h1; simp at h1; omega); intro v4b wb ho hb hg hat; have z_ := Aside0.mk ((hg.block ga (Array.getElem?_eq_some_iff.1 BKga.out).1 (Kd.R_ne HO.out BKga.out (by decide))).trans BKga.out); clear BKga hxga hyga; have BKga := z_; clear z_; have hxga := blk_cell BKga.out; have hyga := blk_frozen BKga.out; have n0_ := Aside0.mk (hb); have n1_ := Aside0.mk (ho); clear HB; clear HO; have HB := n0_; have HO2 := n1_; clear n0_ n1_; clear ho hb hg hat))
     rw [← HXS.out] at HO2
     have hm1 := HI1.out.2.1
     have hm2 := HI2.out.2.1
     clear h0 h0z HXS
     go_wp2
     clear hcell0 hcell1 hxga hyga
     go_loopw [4, 7, 30] (fun v4 v7 v30 wr2 => ∃ (j : Nat) (soft out : List Int) (A : Option Addr) (c : Nat), j ≤ x.f0.length ∧ v30 = .int .i64 j ∧ v7 = .slice A soft.length c ∧ soft.length ≤ c ∧ Aside0 (Kd.C (Kd.int .i64) w A soft.length soft) ∧ Aside0 (text_Write.put (x.f0.drop j) j soft out = text_Write.put x.f0 0 x.f1 xs') ∧ Aside0 (Kd.R (Kd.int .u8) 5 wr2 w.heap.size (fun _ => True) v4 out) ∧ Aside0 (Below w.heap.size w wr2)) (fun _ _ v30 _ => x.f0.length - (intOf v30).toNat)
     case atStart => exact ⟨0, x.f1, xs', A2, c2, Nat.zero_le _, rfl, rfl, HL2.out, HI2, ⟨rfl⟩, HO2, HB⟩
     case round =>
      clear HO2 HB BKga
      obtain ⟨j, soft, out, A, c, hj, rfl, rfl, hsc, HS, HP, HO, HB⟩ := hrel
      by_cases hlj : j < x.f0.length
      ·have hljz : (j : Int) < (x.f0.length : Int) := by omega
       obtain ⟨ad3, cc3, rfl, hcl3, hK3, hcc3⟩ := C_elem (Kd.C_below HI1.out HB.out) j hlj
       obtain ⟨y, hy⟩ : ∃ y, y = x.f0[j] := ⟨_, rfl⟩
       rw [← hy] at hK3
       obtain rfl : cc3 = [.int .i64 y] := hK3
       have hcell : wr.cell? (ad3.add j) = some (.int .i64 y) := by simpa [Kd.int, Kd.scalar] using hcc3 0 _ rfl
       have HP1 := Aside0.mk (show text_Write.put (y :: x.f0.drop (j + 1)) j soft out = text_Write.put x.f0 0 x.f1 xs' from by rw [← HP.out, List.drop_eq_getElem_cons hlj, ← hy])
       have hlim : (text_Write.put x.f0 0 x.f1 xs').length ≤ r1.length := by
        rw [← HX.out]
        exact text_Write.run_len _ _ _
       have HLM := Aside0.mk (show (text_Write.put (y :: x.f0.drop (j + 1)) j soft out).length < 1000000000000 from by rw [HP1.out]; exact Nat.lt_of_le_of_lt hlim HL.out)
       clear hcl3 hcc3 hy hlim HP
       by_cases hpos : 0 < soft.length
       ·have hposz : decide (0 < (soft.length : Int)) = true := decide_eq_true (by omega)
        obtain ⟨ad4, cc4, rfl, hcl4, hK4, hcc4⟩ := C_elem (Kd.C_below HS.out HB.out) 0 hpos
        obtain ⟨s, hs⟩ : ∃ s, s = soft[0] := ⟨_, rfl⟩
        rw [← hs] at hK4
        obtain rfl : cc4 = [.int .i64 s] := hK4
        have hcell4 : wr.cell? (ad4.add 0) = some (.int .i64 s) := by simpa [Kd.int, Kd.scalar] using hcc4 0 _ rfl
        have hcell5 : wr.cell? ad4 = some (.int .i64 s) := by have h := hcell4; unfold Addr.add at h; rw [if_pos rfl] at h; exact h
        have hhd : soft.head? = some s := by rw [hs, List.head?_eq_getElem?, List.getElem?_eq_getElem hpos]
        clear hcl4 hcc4 hs
        by_cases he : s = (j : Int)
        ·subst he
         have HP2 := Aside0.mk (show text_Write.put (x.f0.drop (j + 1)) (j + 1) soft.tail (out ++ [194, 173] ++ [y % 256]) = text_Write.put x.f0 0 x.f1 xs' from by rw [← HP1.out, text_Write.put, if_pos hhd])
         have HL3 := Aside0.mk (show out.length + 3 < 1000000000000 from Nat.lt_of_le_of_lt (text_Write.put_two _ _ _ _ _ hhd) HLM.out)
         clear hhd
         obtain ⟨i0, hi0, _, hsz0, _⟩ := info_parts info3
         obtain ⟨A3, D1, D2, D3⟩ := print_drop_of (P := Try.prog) (Value.int .i64) 0 34 3 .i64 Try.underlying34 hi0 hsz0 (some ad4) c soft 1 (by omega) (by omega) hsc
         rw [show soft.drop (1 : Int).toNat = soft.tail from by simp] at D1 D2 D3
         have HS3 := Aside0.mk (show Kd.C (Kd.int .i64) w A3 soft.tail.length soft.tail from Kd.C_of_reads (h1 := fun _ => rfl) (D2 _ (Kd.reads_of_C HS.out)))
         have HD3 := Aside0.mk D3
         clear D2 D3 hi0 hsz0
         go_upto_region 14 with (fail)
         refine start_ (n := 7) (S := fun w' => True) (ds := []) #[false, false, false, false, false, false, false] (by kernel_rfl) rfl rfl trivial (fun hHeld => ?_)
         refine pure_ (i := 0) (N := some 45) (v := ?_) (a' := ?_) #[true, false, false, false, false, false, false] rfl rfl (by kernel_rfl) (fun _ _ _ h => h) (Or.inl ⟨by rfl, ?_⟩) ?_ ?_
         rotate_left
         ·intro w'
          go_simp
          with_reducible rfl
         rotate_left
         ·simp only [Act.put, List.setIfInBounds_toArray, List.set_cons_zero, List.set_cons_succ, i64_w, i32_w]
          rfl
         refine pure_ (i := 3) (N := some 48) (v := ?_) (a' := ?_) #[true, false, false, true, false, false, false] rfl rfl (by kernel_rfl) (fun _ _ _ h => h) (Or.inl ⟨by rfl, ?_⟩) ?_ ?_
         rotate_left
         ·intro w'
          go_simp
          with_reducible rfl
         rotate_left
         ·simp only [Act.put, List.setIfInBounds_toArray, List.set_cons_zero, List.set_cons_succ, i64_w, i32_w]
          rfl
         refine pure_ (i := 4) (N := some 49) (v := ?_) (a' := ?_) #[true, false, false, true, true, false, false] rfl rfl (by kernel_rfl) (fun _ _ _ h => h) (Or.inl ⟨by rfl, ?_⟩) ?_ ?_
         rotate_left
         ·intro w'
          go_simp
          with_reducible rfl
         rotate_left
         ·simp only [Act.put, List.setIfInBounds_toArray, List.set_cons_zero, List.set_cons_succ, i64_w, i32_w]
          rfl
         refine one_ (i := 1) (N := some 46) #[true, true, false, true, true, false, false] rfl rfl (by kernel_rfl) (by decide) (fun K hK => ?_)
         refine value_ (w1 := ?_) (v := ?_) (by rfl) rfl ?_ ?_
         rotate_left 2
         ·go_simp
          constructor
          ·rfl
          ·rfl
         refine hK.out _ _ trivial (fun hHeld => ?_)
         clear hK K
         refine norm_ (a' := ?_) ?_ ?_
         rotate_left
         ·show Act.put _ (some 46) _ = _
          simp only [Act.put, List.setIfInBounds_toArray, List.set_cons_zero, List.set_cons_succ, i64_w, i32_w]
          rfl
         refine one_ (i := 2) (N := some 47) #[true, true, true, true, true, false, false] rfl rfl (by kernel_rfl) (by decide) (fun K hK => ?_)
         refine Kd.R_append_rows_step (Kd.int .u8) (w0 := w) (W := (wr.drew).alloc (.cells #[.int .u8 194, .int .u8 173] 5)) w.heap.size (by rfl) (.tmp 45) (.tmp 46) 22 5 (.int .u8 0) 1 rfl Try.underlying22 info5 rfl (by decide) (by omega) u4 out [194, 173] (some ⟨wr.heap.size, 0, none⟩) 2 2 (fun _ => True) (fun _ => False) rfl rfl (Kd.R_alloc (Kd.R_drew HO.out) _) (text_Write.C_lit8 wr.drew 5 [194, 173] (by simp)) (fun _ _ h => h) (fun _ h => h.elim) (fun _ _ => trivial) (below_alloc (below_drew1 HB.out) _) (below_size (below_alloc (below_drew1 HB.out) _)) (by have h1 := HL3.out; omega) ?_
         intro v2 w2 ho hb hg hat
         have HO4 := Aside0.mk ho
         have HB4 := Aside0.mk hb
         clear ho hb hg hat HB HO
         have HB := HB4
         clear HB4
         refine hK.out _ _ trivial (fun hHeld => ?_)
         clear hK K
         refine norm_ (a' := ?_) ?_ ?_
         rotate_left
         ·show Act.put _ (some 47) _ = _
          simp only [Act.put, List.setIfInBounds_toArray, List.set_cons_zero, List.set_cons_succ, i64_w, i32_w]
          rfl
         refine pure_ (i := 5) (N := some 4) (v := ?_) (a' := ?_) #[true, true, true, true, true, true, false] rfl rfl (by kernel_rfl) (fun _ _ _ h => h) (Or.inl ⟨by rfl, ?_⟩) ?_ ?_
         rotate_left
         ·intro w'
          go_simp
          with_reducible rfl
         rotate_left
         ·simp only [Act.put, List.setIfInBounds_toArray, List.set_cons_zero, List.set_cons_succ, i64_w, i32_w]
          rfl
         refine pure_ (i := 6) (N := some 7) (v := ?_) (a' := ?_) #[true, true, true, true, true, true, true] rfl rfl (by kernel_rfl) (fun _ _ _ h => h) (Or.inl ⟨by rfl, ?_⟩) ?_ ?_
         rotate_left
         ·intro w'
          go_simp
          with_reducible rfl
         rotate_left
         ·simp only [Act.put, List.setIfInBounds_toArray, List.set_cons_zero, List.set_cons_succ, i64_w, i32_w]
          rfl
         refine done_ (by kernel_rfl) ?_
         go_wp2_with (first | ((with_reducible refine gate_builtin (b := .append) (xs := #[.tmp 50, .tmp 53]) rfl ?_); at_builtin; refine Kd.R_append (Kd.int .u8) (w0 := w) w.heap.size rfl (.tmp 50) (.tmp 53) 22 5 (.int .u8 0) 1 rfl Try.underlying22 info5 rfl (by decide) (by omega) _ (out ++ [194, 173]) (y % 256) [.int .u8 (y % 256)] (fun _ => True) (fun _ => False) rfl rfl ?aP (fun _ hk => hk.elim) ?aF ?aO ?aB ?aS ?aL ?_; (case aP => exact rfl); (case aB => exact (by repeat (first | (with_reducible first | exact HB.out | apply below_alloc | apply pw_below_drewN | apply below_drew1) | exact HB.out))); (case aF => exact (fun _ _ => trivial)); (case aO => exact (by (with_reducible repeat (first | apply Kd.R_alloc | apply Kd.R_drewN | apply Kd.R_drew)); exact HO4.out)); (case aS => exact (below_size (by repeat (first | (with_reducible first | exact HB.out | apply below_alloc | apply pw_below_drewN | apply below_drew1) | exact HB.out)))); (case aL => have h1 := HL3.out; simp only [List.length_append, List.length_cons, List.length_nil]; omega); intro v4c wc ho hb hg hat; have n0_ := Aside0.mk (hb); have n1_ := Aside0.mk (ho); clear HB; clear HO4; have HB := n0_; have HO3 := n1_; clear n0_ n1_; clear ho hb hg hat))
         go_roundw
         case rel => exact ⟨j + 1, soft.tail, _, _, c - 1, by omega, by go_num, by rw [List.length_tail], HD3.out, HS3, HP2, HO3, HB⟩
         case measure => simp [intOf]; omega
        ·have hez : (s == (j : Int)) = false := by simpa using he
         have HP2 := Aside0.mk (show text_Write.put (x.f0.drop (j + 1)) (j + 1) soft (out ++ [y % 256]) = text_Write.put x.f0 0 x.f1 xs' from by rw [← HP1.out, text_Write.put, if_neg (by rw [hhd]; exact fun h => he (Option.some.inj h))])
         have HL3 := Aside0.mk (show out.length + 1 < 1000000000000 from by
          have h1 := HLM.out
          rw [HP1.out, ← HP2.out] at h1
          have h2 := text_Write.put_len (x.f0.drop (j + 1)) (j + 1) soft (out ++ [y % 256])
          simp only [List.length_append, List.length_cons, List.length_nil] at h2
          omega)
         clear hhd he
         go_wp2_with (first | ((with_reducible refine gate_builtin (b := .append) (xs := #[.tmp 50, .tmp 53]) rfl ?_); at_builtin; refine Kd.R_append (Kd.int .u8) (w0 := w) w.heap.size rfl (.tmp 50) (.tmp 53) 22 5 (.int .u8 0) 1 rfl Try.underlying22 info5 rfl (by decide) (by omega) _ out (y % 256) [.int .u8 (y % 256)] (fun _ => True) (fun _ => False) rfl rfl ?aP (fun _ hk => hk.elim) ?aF ?aO ?aB ?aS ?aL ?_; (case aP => exact rfl); (case aB => exact (by repeat (first | (with_reducible first | exact HB.out | apply below_alloc | apply pw_below_drewN | apply below_drew1) | exact HB.out))); (case aF => exact (fun _ _ => trivial)); (case aO => exact (by (with_reducible repeat (first | apply Kd.R_alloc | apply Kd.R_drewN | apply Kd.R_drew)); exact HO.out)); (case aS => exact (below_size (by repeat (first | (with_reducible first | exact HB.out | apply below_alloc | apply pw_below_drewN | apply below_drew1) | exact HB.out)))); (case aL => have h1 := HL3.out; omega); intro v4c wc ho hb hg hat; have n0_ := Aside0.mk (hb); have n1_ := Aside0.mk (ho); clear HB; clear HO; have HB := n0_; have HO3 := n1_; clear n0_ n1_; clear ho hb hg hat))
         go_roundw
         case rel => exact ⟨j + 1, soft, _, _, c, by omega, by go_num, rfl, hsc, HS, HP2, HO3, HB⟩
         case measure => simp [intOf]; omega
       ·obtain rfl : soft = [] := List.length_eq_zero_iff.1 (by omega)
        have hpz : decide (0 < (([] : List Int).length : Int)) = false := rfl
        have HP2 := Aside0.mk (show text_Write.put (x.f0.drop (j + 1)) (j + 1) [] (out ++ [y % 256]) = text_Write.put x.f0 0 x.f1 xs' from by rw [← HP1.out, text_Write.put, if_neg (by simp)])
        have HL3 := Aside0.mk (show out.length + 1 < 1000000000000 from by
         have h1 := HLM.out
         rw [HP1.out, ← HP2.out] at h1
         have h2 := text_Write.put_len (x.f0.drop (j + 1)) (j + 1) [] (out ++ [y % 256])
         simp only [List.length_append, List.length_cons, List.length_nil] at h2
         omega)
        go_wp2_with (first | ((with_reducible refine gate_builtin (b := .append) (xs := #[.tmp 50, .tmp 53]) rfl ?_); at_builtin; refine Kd.R_append (Kd.int .u8) (w0 := w) w.heap.size rfl (.tmp 50) (.tmp 53) 22 5 (.int .u8 0) 1 rfl Try.underlying22 info5 rfl (by decide) (by omega) _ out (y % 256) [.int .u8 (y % 256)] (fun _ => True) (fun _ => False) rfl rfl ?aP (fun _ hk => hk.elim) ?aF ?aO ?aB ?aS ?aL ?_; (case aP => exact rfl); (case aB => exact (by repeat (first | (with_reducible first | exact HB.out | apply below_alloc | apply pw_below_drewN | apply below_drew1) | exact HB.out))); (case aF => exact (fun _ _ => trivial)); (case aO => exact (by (with_reducible repeat (first | apply Kd.R_alloc | apply Kd.R_drewN | apply Kd.R_drew)); exact HO.out)); (case aS => exact (below_size (by repeat (first | (with_reducible first | exact HB.out | apply below_alloc | apply pw_below_drewN | apply below_drew1) | exact HB.out)))); (case aL => have h1 := HL3.out; omega); intro v4c wc ho hb hg hat; have n0_ := Aside0.mk (hb); have n1_ := Aside0.mk (ho); clear HB; clear HO; have HB := n0_; have HO3 := n1_; clear n0_ n1_; clear ho hb hg hat))
        go_roundw
        case rel => exact ⟨j + 1, [], _, _, c, by omega, by go_num, rfl, hsc, HS, HP2, HO3, HB⟩
        case measure => simp [intOf]; omega
      ·obtain rfl : j = x.f0.length := by omega
       have hge : decide ((x.f0.length : Int) < (x.f0.length : Int)) = false := decide_eq_false (by omega)
       have HE := Aside0.mk (show out = text_Write.put x.f0 0 x.f1 xs' from by have := HP.out; rw [List.drop_length] at this; exact this)
       have HX2 := Aside0.mk (show text_Write.run (l0.drop (i + 1)) (i + 1) out = r1 from by rw [HE.out]; exact HX.out)
       clear HP
       go_wp2
       go_roundw
       case rel => exact ⟨i + 1, out, by omega, by go_num, HX2, HO, HB⟩
       case measure => simp [intOf]; omega
    ·rw [if_neg h0] at hxs
     have h0z : decide (0 < (i : Int)) = false := decide_eq_false (by omega)
     have HXS := Aside0.mk hxs
     clear hxs
     go_upto_region 9 with (first | ((with_reducible refine gate_dst (N := 6) rfl ?_); refine box_event ?hg (N := 6) ?hd (cs := #[.slice none 0 0, .slice none 0 0]) (t := 36) ?hr ?_; (case hd => rfl); (case hg => rfl); (case hr => first | (go_simp; done) | (go_simp; rfl)); intro ga hg wa hbox hb; have HOb := Aside0.mk (Kd.R_below HO.out hb); clear HO; have GEga := Aside0.mk (show w.heap.size ≤ ga from hg ▸ below_size (by repeat (first | (with_reducible first | exact HB.out | apply below_alloc | apply pw_below_drewN | apply below_drew1) | exact HB.out))); have n0_ := Aside0.mk (below_step (by repeat (first | (with_reducible first | exact HB.out | apply below_alloc | apply pw_below_drewN | apply below_drew1) | exact HB.out)) hb); have BKga := Aside0.mk hbox; have hxga := blk_cell hbox; have hyga := blk_frozen hbox; clear HB; have HB := n0_; clear n0_ hb hbox hg) | ((with_reducible refine gate_store (t := 36) rfl ?_); refine store_row_event (base := w.heap.size) rfl rfl 36 _ _ rfl (g := ga) (by rfl) (by rfl) BKga.out (by kernel_rfl) (by rfl) (by rfl) GEga.out ?_; intro ws_ hs_ hk_ hb_; have HO2 := Aside0.mk (text_Write.apart HOb.out BKga.out (by decide) hk_); clear HOb; have n0_ := Aside0.mk (HB.out.trans hb_); clear HB; have HB := n0_; clear n0_; clear BKga hxga hyga; have BKga := Aside0.mk hs_; have hxga := blk_cell BKga.out; have hyga := blk_frozen BKga.out; clear hs_ hk_ hb_))
     rw [← HXS.out] at HO2
     have hm1 := HI1.out.2.1
     have hm2 := HI2.out.2.1
     clear h0 h0z HXS
     go_wp2
     clear hcell0 hcell1 hxga hyga
     go_loopw [4, 7, 30] (fun v4 v7 v30 wr2 => ∃ (j : Nat) (soft out : List Int) (A : Option Addr) (c : Nat), j ≤ x.f0.length ∧ v30 = .int .i64 j ∧ v7 = .slice A soft.length c ∧ soft.length ≤ c ∧ Aside0 (Kd.C (Kd.int .i64) w A soft.length soft) ∧ Aside0 (text_Write.put (x.f0.drop j) j soft out = text_Write.put x.f0 0 x.f1 xs') ∧ Aside0 (Kd.R (Kd.int .u8) 5 wr2 w.heap.size (fun _ => True) v4 out) ∧ Aside0 (Below w.heap.size w wr2)) (fun _ _ v30 _ => x.f0.length - (intOf v30).toNat)
     case atStart => exact ⟨0, x.f1, xs', A2, c2, Nat.zero_le _, rfl, rfl, HL2.out, HI2, ⟨rfl⟩, HO2, HB⟩
     case round =>
      clear HO2 HB BKga
      obtain ⟨j, soft, out, A, c, hj, rfl, rfl, hsc, HS, HP, HO, HB⟩ := hrel
      by_cases hlj : j < x.f0.length
      ·have hljz : (j : Int) < (x.f0.length : Int) := by omega
       obtain ⟨ad3, cc3, rfl, hcl3, hK3, hcc3⟩ := C_elem (Kd.C_below HI1.out HB.out) j hlj
       obtain ⟨y, hy⟩ : ∃ y, y = x.f0[j] := ⟨_, rfl⟩
       rw [← hy] at hK3
       obtain rfl : cc3 = [.int .i64 y] := hK3
       have hcell : wr.cell? (ad3.add j) = some (.int .i64 y) := by simpa [Kd.int, Kd.scalar] using hcc3 0 _ rfl
       have HP1 := Aside0.mk (show text_Write.put (y :: x.f0.drop (j + 1)) j soft out = text_Write.put x.f0 0 x.f1 xs' from by rw [← HP.out, List.drop_eq_getElem_cons hlj, ← hy])
       have hlim : (text_Write.put x.f0 0 x.f1 xs').length ≤ r1.length := by
        rw [← HX.out]
        exact text_Write.run_len _ _ _
       have HLM := Aside0.mk (show (text_Write.put (y :: x.f0.drop (j + 1)) j soft out).length < 1000000000000 from by rw [HP1.out]; exact Nat.lt_of_le_of_lt hlim HL.out)
       clear hcl3 hcc3 hy hlim HP
       by_cases hpos : 0 < soft.length
       ·have hposz : decide (0 < (soft.length : Int)) = true := decide_eq_true (by omega)
        obtain ⟨ad4, cc4, rfl, hcl4, hK4, hcc4⟩ := C_elem (Kd.C_below HS.out HB.out) 0 hpos
        obtain ⟨s, hs⟩ : ∃ s, s = soft[0] := ⟨_, rfl⟩
        rw [← hs] at hK4
        obtain rfl : cc4 = [.int .i64 s] := hK4
        have hcell4 : wr.cell? (ad4.add 0) = some (.int .i64 s) := by simpa [Kd.int, Kd.scalar] using hcc4 0 _ rfl
        have hcell5 : wr.cell? ad4 = some (.int .i64 s) := by have h := hcell4; unfold Addr.add at h; rw [if_pos rfl] at h; exact h
        have hhd : soft.head? = some s := by rw [hs, List.head?_eq_getElem?, List.getElem?_eq_getElem hpos]
        clear hcl4 hcc4 hs
        by_cases he : s = (j : Int)
        ·subst he
         have HP2 := Aside0.mk (show text_Write.put (x.f0.drop (j + 1)) (j + 1) soft.tail (out ++ [194, 173] ++ [y % 256]) = text_Write.put x.f0 0 x.f1 xs' from by rw [← HP1.out, text_Write.put, if_pos hhd])
         have HL3 := Aside0.mk (show out.length + 3 < 1000000000000 from Nat.lt_of_le_of_lt (text_Write.put_two _ _ _ _ _ hhd) HLM.out)
         clear hhd
         obtain ⟨i0, hi0, _, hsz0, _⟩ := info_parts info3
         obtain ⟨A3, D1, D2, D3⟩ := print_drop_of (P := Try.prog) (Value.int .i64) 0 34 3 .i64 Try.underlying34 hi0 hsz0 (some ad4) c soft 1 (by omega) (by omega) hsc
         rw [show soft.drop (1 : Int).toNat = soft.tail from by simp] at D1 D2 D3
         have HS3 := Aside0.mk (show Kd.C (Kd.int .i64) w A3 soft.tail.length soft.tail from Kd.C_of_reads (h1 := fun _ => rfl) (D2 _ (Kd.reads_of_C HS.out)))
         have HD3 := Aside0.mk D3
         clear D2 D3 hi0 hsz0
         go_upto_region 14 with (fail)
         refine start_ (n := 7) (S := fun w' => True) (ds := []) #[false, false, false, false, false, false, false] (by kernel_rfl) rfl rfl trivial (fun hHeld => ?_)
         refine pure_ (i := 0) (N := some 45) (v := ?_) (a' := ?_) #[true, false, false, false, false, false, false] rfl rfl (by kernel_rfl) (fun _ _ _ h => h) (Or.inl ⟨by rfl, ?_⟩) ?_ ?_
         rotate_left
         ·intro w'
          go_simp
          with_reducible rfl
         rotate_left
         ·simp only [Act.put, List.setIfInBounds_toArray, List.set_cons_zero, List.set_cons_succ, i64_w, i32_w]
          rfl
         refine pure_ (i := 3) (N := some 48) (v := ?_) (a' := ?_) #[true, false, false, true, false, false, false] rfl rfl (by kernel_rfl) (fun _ _ _ h => h) (Or.inl ⟨by rfl, ?_⟩) ?_ ?_
         rotate_left
         ·intro w'
          go_simp
          with_reducible rfl
         rotate_left
         ·simp only [Act.put, List.setIfInBounds_toArray, List.set_cons_zero, List.set_cons_succ, i64_w, i32_w]
          rfl
         refine pure_ (i := 4) (N := some 49) (v := ?_) (a' := ?_) #[true, false, false, true, true, false, false] rfl rfl (by kernel_rfl) (fun _ _ _ h => h) (Or.inl ⟨by rfl, ?_⟩) ?_ ?_
         rotate_left
         ·intro w'
          go_simp
          with_reducible rfl
         rotate_left
         ·simp only [Act.put, List.setIfInBounds_toArray, List.set_cons_zero, List.set_cons_succ, i64_w, i32_w]
          rfl
         refine one_ (i := 1) (N := some 46) #[true, true, false, true, true, false, false] rfl rfl (by kernel_rfl) (by decide) (fun K hK => ?_)
         refine value_ (w1 := ?_) (v := ?_) (by rfl) rfl ?_ ?_
         rotate_left 2
         ·go_simp
          constructor
          ·rfl
          ·rfl
         refine hK.out _ _ trivial (fun hHeld => ?_)
         clear hK K
         refine norm_ (a' := ?_) ?_ ?_
         rotate_left
         ·show Act.put _ (some 46) _ = _
          simp only [Act.put, List.setIfInBounds_toArray, List.set_cons_zero, List.set_cons_succ, i64_w, i32_w]
          rfl
         refine one_ (i := 2) (N := some 47) #[true, true, true, true, true, false, false] rfl rfl (by kernel_rfl) (by decide) (fun K hK => ?_)
         refine Kd.R_append_rows_step (Kd.int .u8) (w0 := w) (W := (wr.drew).alloc (.cells #[.int .u8 194, .int .u8 173] 5)) w.heap.size (by rfl) (.tmp 45) (.tmp 46) 22 5 (.int .u8 0) 1 rfl Try.underlying22 info5 rfl (by decide) (by omega) u4 out [194, 173] (some ⟨wr.heap.size, 0, none⟩) 2 2 (fun _ => True) (fun _ => False) rfl rfl (Kd.R_alloc (Kd.R_drew HO.out) _) (text_Write.C_lit8 wr.drew 5 [194, 173] (by simp)) (fun _ _ h => h) (fun _ h => h.elim) (fun _ _ => trivial) (below_alloc (below_drew1 HB.out) _) (below_size (below_alloc (below_drew1 HB.out) _)) (by have h1 := HL3.out; omega) ?_
         intro v2 w2 ho hb hg hat
         have HO4 := Aside0.mk ho
         have HB4 := Aside0.mk hb
         clear ho hb hg hat HB HO
         have HB := HB4
         clear HB4
         refine hK.out _ _ trivial (fun hHeld => ?_)
         clear hK K
         refine norm_ (a' := ?_) ?_ ?_
         rotate_left
         ·show Act.put _ (some 47) _ = _
          simp only [Act.put, List.setIfInBounds_toArray, List.set_cons_zero, List.set_cons_succ, i64_w, i32_w]
          rfl
         refine pure_ (i := 5) (N := some 4) (v := ?_) (a' := ?_) #[true, true, true, true, true, true, false] rfl rfl (by kernel_rfl) (fun _ _ _ h => h) (Or.inl ⟨by rfl, ?_⟩) ?_ ?_
         rotate_left
         ·intro w'
          go_simp
          with_reducible rfl
         rotate_left
         ·simp only [Act.put, List.setIfInBounds_toArray, List.set_cons_zero, List.set_cons_succ, i64_w, i32_w]
          rfl
         refine pure_ (i := 6) (N := some 7) (v := ?_) (a' := ?_) #[true, true, true, true, true, true, true] rfl rfl (by kernel_rfl) (fun _ _ _ h => h) (Or.inl ⟨by rfl, ?_⟩) ?_ ?_
         rotate_left
         ·intro w'
          go_simp
          with_reducible rfl
         rotate_left
         ·simp only [Act.put, List.setIfInBounds_toArray, List.set_cons_zero, List.set_cons_succ, i64_w, i32_w]
          rfl
         refine done_ (by kernel_rfl) ?_
         go_wp2_with (first | ((with_reducible refine gate_builtin (b := .append) (xs := #[.tmp 50, .tmp 53]) rfl ?_); at_builtin; refine Kd.R_append (Kd.int .u8) (w0 := w) w.heap.size rfl (.tmp 50) (.tmp 53) 22 5 (.int .u8 0) 1 rfl Try.underlying22 info5 rfl (by decide) (by omega) _ (out ++ [194, 173]) (y % 256) [.int .u8 (y % 256)] (fun _ => True) (fun _ => False) rfl rfl ?aP (fun _ hk => hk.elim) ?aF ?aO ?aB ?aS ?aL ?_; (case aP => exact rfl); (case aB => exact (by repeat (first | (with_reducible first | exact HB.out | apply below_alloc | apply pw_below_drewN | apply below_drew1) | exact HB.out))); (case aF => exact (fun _ _ => trivial)); (case aO => exact (by (with_reducible repeat (first | apply Kd.R_alloc | apply Kd.R_drewN | apply Kd.R_drew)); exact HO4.out)); (case aS => exact (below_size (by repeat (first | (with_reducible first | exact HB.out | apply below_alloc | apply pw_below_drewN | apply below_drew1) | exact HB.out)))); (case aL => have h1 := HL3.out; simp only [List.length_append, List.length_cons, List.length_nil]; omega); intro v4c wc ho hb hg hat; have n0_ := Aside0.mk (hb); have n1_ := Aside0.mk (ho); clear HB; clear HO4; have HB := n0_; have HO3 := n1_; clear n0_ n1_; clear ho hb hg hat))
         go_roundw
         case rel => exact ⟨j + 1, soft.tail, _, _, c - 1, by omega, by go_num, by rw [List.length_tail], HD3.out, HS3, HP2, HO3, HB⟩
         case measure => simp [intOf]; omega
        ·have hez : (s == (j : Int)) = false := by simpa using he
         have HP2 := Aside0.mk (show text_Write.put (x.f0.drop (j + 1)) (j + 1) soft (out ++ [y % 256]) = text_Write.put x.f0 0 x.f1 xs' from by rw [← HP1.out, text_Write.put, if_neg (by rw [hhd]; exact fun h => he (Option.some.inj h))])
         have HL3 := Aside0.mk (show out.length + 1 < 1000000000000 from by
          have h1 := HLM.out
          rw [HP1.out, ← HP2.out] at h1
          have h2 := text_Write.put_len (x.f0.drop (j + 1)) (j + 1) soft (out ++ [y % 256])
          simp only [List.length_append, List.length_cons, List.length_nil] at h2
          omega)
         clear hhd he
         go_wp2_with (first | ((with_reducible refine gate_builtin (b := .append) (xs := #[.tmp 50, .tmp 53]) rfl ?_); at_builtin; refine Kd.R_append (Kd.int .u8) (w0 := w) w.heap.size rfl (.tmp 50) (.tmp 53) 22 5 (.int .u8 0) 1 rfl Try.underlying22 info5 rfl (by decide) (by omega) _ out (y % 256) [.int .u8 (y % 256)] (fun _ => True) (fun _ => False) rfl rfl ?aP (fun _ hk => hk.elim) ?aF ?aO ?aB ?aS ?aL ?_; (case aP => exact rfl); (case aB => exact (by repeat (first | (with_reducible first | exact HB.out | apply below_alloc | apply pw_below_drewN | apply below_drew1) | exact HB.out))); (case aF => exact (fun _ _ => trivial)); (case aO => exact (by (with_reducible repeat (first | apply Kd.R_alloc | apply Kd.R_drewN | apply Kd.R_drew)); exact HO.out)); (case aS => exact (below_size (by repeat (first | (with_reducible first | exact HB.out | apply below_alloc | apply pw_below_drewN | apply below_drew1) | exact HB.out)))); (case aL => have h1 := HL3.out; omega); intro v4c wc ho hb hg hat; have n0_ := Aside0.mk (hb); have n1_ := Aside0.mk (ho); clear HB; clear HO; have HB := n0_; have HO3 := n1_; clear n0_ n1_; clear ho hb hg hat))
         go_roundw
         case rel => exact ⟨j + 1, soft, _, _, c, by omega, by go_num, rfl, hsc, HS, HP2, HO3, HB⟩
         case measure => simp [intOf]; omega
       ·obtain rfl : soft = [] := List.length_eq_zero_iff.1 (by omega)
        have hpz : decide (0 < (([] : List Int).length : Int)) = false := rfl
        have HP2 := Aside0.mk (show text_Write.put (x.f0.drop (j + 1)) (j + 1) [] (out ++ [y % 256]) = text_Write.put x.f0 0 x.f1 xs' from by rw [← HP1.out, text_Write.put, if_neg (by simp)])
        have HL3 := Aside0.mk (show out.length + 1 < 1000000000000 from by
         have h1 := HLM.out
         rw [HP1.out, ← HP2.out] at h1
         have h2 := text_Write.put_len (x.f0.drop (j + 1)) (j + 1) [] (out ++ [y % 256])
         simp only [List.length_append, List.length_cons, List.length_nil] at h2
         omega)
        go_wp2_with (first | ((with_reducible refine gate_builtin (b := .append) (xs := #[.tmp 50, .tmp 53]) rfl ?_); at_builtin; refine Kd.R_append (Kd.int .u8) (w0 := w) w.heap.size rfl (.tmp 50) (.tmp 53) 22 5 (.int .u8 0) 1 rfl Try.underlying22 info5 rfl (by decide) (by omega) _ out (y % 256) [.int .u8 (y % 256)] (fun _ => True) (fun _ => False) rfl rfl ?aP (fun _ hk => hk.elim) ?aF ?aO ?aB ?aS ?aL ?_; (case aP => exact rfl); (case aB => exact (by repeat (first | (with_reducible first | exact HB.out | apply below_alloc | apply pw_below_drewN | apply below_drew1) | exact HB.out))); (case aF => exact (fun _ _ => trivial)); (case aO => exact (by (with_reducible repeat (first | apply Kd.R_alloc | apply Kd.R_drewN | apply Kd.R_drew)); exact HO.out)); (case aS => exact (below_size (by repeat (first | (with_reducible first | exact HB.out | apply below_alloc | apply pw_below_drewN | apply below_drew1) | exact HB.out)))); (case aL => have h1 := HL3.out; omega); intro v4c wc ho hb hg hat; have n0_ := Aside0.mk (hb); have n1_ := Aside0.mk (ho); clear HB; clear HO; have HB := n0_; have HO3 := n1_; clear n0_ n1_; clear ho hb hg hat))
        go_roundw
        case rel => exact ⟨j + 1, [], _, _, c, by omega, by go_num, rfl, hsc, HS, HP2, HO3, HB⟩
        case measure => simp [intOf]; omega
      ·obtain rfl : j = x.f0.length := by omega
       have hge : decide ((x.f0.length : Int) < (x.f0.length : Int)) = false := decide_eq_false (by omega)
       have HE := Aside0.mk (show out = text_Write.put x.f0 0 x.f1 xs' from by have := HP.out; rw [List.drop_length] at this; exact this)
       have HX2 := Aside0.mk (show text_Write.run (l0.drop (i + 1)) (i + 1) out = r1 from by rw [HE.out]; exact HX.out)
       clear HP
       go_wp2
       go_roundw
       case rel => exact ⟨i + 1, out, by omega, by go_num, HX2, HO, HB⟩
       case measure => simp [intOf]; omega
   ·obtain rfl : i = l0.length := by omega
    have hge : decide ((l0.length : Int) < (l0.length : Int)) = false := decide_eq_false (by omega)
    have HE := Aside0.mk (show xs = r1 from by have := HA.out; rw [List.drop_length] at this; exact this)
    clear HA
    go_wp2
    go_ret2
    exact ⟨_, rfl, by rw [← HE.out]; exact HO.out, HB.out⟩


end Go.Proofs.Ytanhafkoohnjhaa.G
