/- Contracts of the functions of this seat: what each call computes, as a plain Lean function. Made by this session's own generator. -/
import Derived.Test.YtpijgpjoobffoaaGx0
import Derived.Test.YtpijgpjoobffoaaGx7
namespace Go.Proofs.Ytpijgpjoobffoaa.G
open Go.RowKit Go.Proofs.YtpijgpjoobffoaaMy Go.Proofs.YtpijgpjoobffoaaW.PrintWords Go.Proofs.YtpijgpjoobffoaaW.PrintLast Go.Proofs.YtpijgpjoobffoaaW.PrintMore
attribute [local go_sem] max2_int min2_int max_two min_two max_three min_three max_four min_four   -- for this text's walks alone
set_option linter.unusedVariables false
set_option linter.unusedSimpArgs false

/-! ### pack_Take: function 61 -/
mutual
def pack_Take.j0 : Nat → List Int → Int → Bool → Option (Int × List Int × Int)
 | 0, _, _, _ => none
 | k + 1, x0, x1, x17 => if x17 = true then (some (0, ([] : List Int), 60)) else (pack_Take.l0 k x0 x1 0 x1 0)
def pack_Take.l0 : Nat → List Int → Int → Int → Int → Int → Option (Int × List Int × Int)
 | 0, _, _, _, _, _ => none
 | k + 1, x0, x1, x7, x18, x19 => if x19 < x18 then (if 0 ≤ x19 then (if x19 < (x0.length : Int) then (pack_Take.l0 k x0 x1 (Go.bits .or .i64 (wrap64 (x7 * 256)) (wrap64 (rd x0 x19))) x18 (wrap64 (x19 + 1))) else (none)) else (none)) else (if 0 ≤ x1 then (if x1 ≤ (x0.length : Int) then ((bytes_Clone.f (x0.drop (x1 : Int).toNat)).bind fun t144 => (some (x7, t144, 0))) else (none)) else (none))
end
def pack_Take.f (k : Nat) (l0 : List Int) (a1 : Int) : Option (Int × List Int × Int) := (pack_sized.f a1).bind fun t141 => (if t141 = true then (pack_Take.j0 k l0 a1 (decide ((l0.length : Int) < a1))) else (pack_Take.j0 k l0 a1 true))
theorem pack_Take.mono_l : ∀ k, (∀ y0 y1 y2, LeO (pack_Take.j0 k y0 y1 y2) (pack_Take.j0 (k + 1) y0 y1 y2)) ∧ (∀ y0 y1 y2 y3 y4, LeO (pack_Take.l0 k y0 y1 y2 y3 y4) (pack_Take.l0 (k + 1) y0 y1 y2 y3 y4))
 | 0 => ⟨fun _ _ _ r h => by simp [pack_Take.j0] at h, fun _ _ _ _ _ r h => by simp [pack_Take.l0] at h⟩
 | k + 1 => by
  obtain ⟨ih0, ih1⟩ := pack_Take.mono_l k
  refine ⟨?_, ?_⟩
  ·intro y0 y1 y2
   unfold pack_Take.j0
   repeat' first
   | (with_reducible exact ih0 _ _ _)
   | (with_reducible exact ih1 _ _ _ _ _)
   | (with_reducible exact LeO.refl _)
   | (with_reducible exact LeO.none _)
   | (with_reducible refine LeO.ite ?_ ?_)
   | (with_reducible refine LeO.bind ?_ (fun _ => ?_))
   | exact ih0 _ _ _
   | exact ih1 _ _ _ _ _
   | exact LeO.none _
   | refine LeO.ite ?_ ?_
   | refine LeO.bind ?_ (fun _ => ?_)
  ·intro y0 y1 y2 y3 y4
   unfold pack_Take.l0
   repeat' first
   | (with_reducible exact ih0 _ _ _)
   | (with_reducible exact ih1 _ _ _ _ _)
   | (with_reducible exact LeO.refl _)
   | (with_reducible exact LeO.none _)
   | (with_reducible refine LeO.ite ?_ ?_)
   | (with_reducible refine LeO.bind ?_ (fun _ => ?_))
   | exact ih0 _ _ _
   | exact ih1 _ _ _ _ _
   | exact LeO.none _
   | refine LeO.ite ?_ ?_
   | refine LeO.bind ?_ (fun _ => ?_)
theorem pack_Take.mono : ∀ a0 a1 k, LeO (pack_Take.f k a0 a1) (pack_Take.f (k + 1) a0 a1) := by
 intro a0 a1 k
 obtain ⟨ih0, ih1⟩ := pack_Take.mono_l k
 unfold pack_Take.f
 repeat' first
   | (with_reducible exact ih0 _ _ _)
   | (with_reducible exact ih1 _ _ _ _ _)
   | (with_reducible exact LeO.refl _)
   | (with_reducible exact LeO.none _)
   | (with_reducible refine LeO.ite ?_ ?_)
   | (with_reducible refine LeO.bind ?_ (fun _ => ?_))
   | exact ih0 _ _ _
   | exact ih1 _ _ _ _ _
   | exact LeO.none _
   | refine LeO.ite ?_ ?_
   | refine LeO.bind ?_ (fun _ => ?_)
set_option maxHeartbeats 8000000 in
set_option maxRecDepth 100000 in
theorem pack_Take.calls (k : Nat) (A0 : Option Addr) (c0 : Nat) (l0 : List Int) (a1 : Int) (r1 : Int) (r2 : List Int) (r3 : Int) (w : World) (hr0 : Kd.C (Kd.int .u8) w A0 l0.length l0) (hc0 : l0.length ≤ c0) (h : pack_Take.f k l0 a1 = some (r1, r2, r3)) :
  Calls Try.prog 61 #[.slice A0 l0.length c0, .int .i64 a1] w fun e w' => ∃ v1_ : Value, e = .returned (.tuple #[.int .i64 r1, v1_, .int .i64 r3]) ∧ Kd.R (Kd.int .u8) 5 w' w.heap.size (fun _ => True) v1_ r2 ∧ Below w.heap.size w w' := by
 have HR0 := Aside0.mk hr0
 have HC0 := Aside0.mk hc0
 clear hr0 hc0
 have HB := Aside0.mk (Below.refl w.heap.size w)
 have H : ((pack_sized.f a1).bind fun t141 => (if t141 = true then (pack_Take.j0 k l0 a1 (decide ((l0.length : Int) < a1))) else (pack_Take.j0 k l0 a1 true))) = some (r1, r2, r3) := h
 clear h
 have HC3 := Aside0.mk H
 clear H
 go_enter Try.func61, Try.ntmps61
 go_upto_region 1 with (fail)
 go_cut [17] (fun v17 wc => ∃ (kq : Nat) (x17_2 : Bool), v17 = .bool x17_2 ∧ Aside0 (pack_Take.j0 kq l0 a1 x17_2 = some (r1, r2, r3)) ∧ Aside0 (kq ≤ k) ∧ Aside0 (Below w.heap.size w wc))
 case first =>
  have H := HC3.out
  clear HC3
  replace H := Option.bind_eq_some_iff.mp H
  obtain ⟨t141, A40, H⟩ := H
  replace H : (if t141 = true then (pack_Take.j0 k l0 a1 (decide ((l0.length : Int) < a1))) else (pack_Take.j0 k l0 a1 true)) = some (r1, r2, r3) := H
  have A4 := Aside0.mk A40
  clear A40
  by_cases c5 : t141 = true
  ·subst c5
   have H1 : (pack_Take.j0 k l0 a1 (decide ((l0.length : Int) < a1))) = some (r1, r2, r3) := by rw [if_pos rfl] at H; exact H
   clear H
   have H := H1
   clear H1
   have H' := Aside0.mk H
   clear H
   go_wp2_with (first | ((with_reducible refine gate_callee (f := 56) rfl ?_); refine goesL_ (some 10) rfl rfl Try.func56 (by kernel_rfl) rfl #[.int .i64 a1] rfl (by (try simp only [List.map_toArray, List.map_cons, List.map_nil]); first | done | rfl | (simp only [List.length_drop, List.length_take]; rfl)) ?_; (with_reducible refine (pack_sized.calls a1 true _ A4.out).mono ?_); rintro e w' ⟨rfl, ⟨nd, rfl⟩⟩; refine ⟨_, rfl, ?_⟩))
   go_meet
   case rel => exact ⟨_, (decide ((l0.length : Int) < a1)), (by first | rfl | (simp; done) | (simp [*]; done)), H', ⟨by first | omega | exact Nat.le_refl _⟩, ⟨by repeat (first | (with_reducible first | exact HB.out | apply below_alloc | apply pw_below_drewN | apply below_drew1) | exact HB.out)⟩⟩
  ·replace c5 := Bool.eq_false_iff.mpr c5
   subst c5
   have H1 : (pack_Take.j0 k l0 a1 true) = some (r1, r2, r3) := by rw [if_neg (show ¬ (false = true) by decide)] at H; exact H
   clear H
   have H := H1
   clear H1
   have H' := Aside0.mk H
   clear H
   go_wp2_with (first | ((with_reducible refine gate_callee (f := 56) rfl ?_); refine goesL_ (some 10) rfl rfl Try.func56 (by kernel_rfl) rfl #[.int .i64 a1] rfl (by (try simp only [List.map_toArray, List.map_cons, List.map_nil]); first | done | rfl | (simp only [List.length_drop, List.length_take]; rfl)) ?_; (with_reducible refine (pack_sized.calls a1 false _ A4.out).mono ?_); rintro e w' ⟨rfl, ⟨nd, rfl⟩⟩; refine ⟨_, rfl, ?_⟩))
   go_meet
   case rel => exact ⟨_, (true), (by first | rfl | (simp; done) | (simp [*]; done)), H', ⟨by first | omega | exact Nat.le_refl _⟩, ⟨by repeat (first | (with_reducible first | exact HB.out | apply below_alloc | apply pw_below_drewN | apply below_drew1) | exact HB.out)⟩⟩
 case rest =>
  clear HC3
  try clear p2
  try clear c5
  obtain ⟨kq, x17_2, rfl, HA, HJ2, HB⟩ := hcut
  cases kq with
  | zero => exact absurd HA.out (by simp [pack_Take.j0])
  | succ kj2 =>
   have H := HA.out
   clear HA
   simp only [pack_Take.j0] at H
   by_cases c6 : x17_2 = true
   ·subst c6
    have H1 : (some (0, ([] : List Int), 60)) = some (r1, r2, r3) := by rw [if_pos rfl] at H; exact H
    clear H
    have H := H1
    clear H1
    simp only [Option.some.injEq, Prod.mk.injEq] at H
    obtain ⟨rfl, rfl, rfl⟩ := H
    go_wp2
    go_ret3
    exact ⟨_, by first | rfl | (simp [errW_none, errW_some] <;> rfl) | (simp [*, errW_none, errW_some] <;> rfl), by first | exact Kd.R_nil _ _ _ _ _ | exact Kd.N_nil _ _ _ _ _ | exact Kd.V_nil _ _ _ _ _ | exact Kd.Q_nil _ _ _ _ _ | exact Kd.S_nil _ _ _ _ _, by repeat (first | (with_reducible first | exact HB.out | apply below_alloc | apply pw_below_drewN | apply below_drew1) | exact HB.out)⟩
   ·replace c6 := Bool.eq_false_iff.mpr c6
    subst c6
    have H1 : (pack_Take.l0 kj2 l0 a1 0 a1 0) = some (r1, r2, r3) := by rw [if_neg (show ¬ (false = true) by decide)] at H; exact H
    clear H
    have H := H1
    clear H1
    have H' := Aside0.mk H
    clear H
    go_wp2
    go_loopg [7, 19] kj2 (fun kq v7 v19 w' => ∃ (x7_2 : Int) (x19_2 : Int), v7 = .int .i64 x7_2 ∧ v19 = .int .i64 x19_2 ∧ Aside0 (pack_Take.l0 kq l0 a1 x7_2 a1 x19_2 = some (r1, r2, r3)) ∧ Aside0 (kq ≤ kj2) ∧ Aside0 (Below w.heap.size w w'))
    case atStart => exact ⟨(0), (0), (by first | rfl | (simp; done) | (simp [*]; done)), (by first | rfl | (simp; done) | (simp [*]; done)), H', ⟨Nat.le_refl _⟩, ⟨by repeat (first | (with_reducible first | exact HB.out | apply below_alloc | apply pw_below_drewN | apply below_drew1) | exact HB.out)⟩⟩
    case round =>
     clear H'
     try clear p2
     try clear c5
     try clear c6
     try clear p2
     obtain ⟨x7_2, x19_2, rfl, rfl, HA, HK2, HB⟩ := hrel
     cases gk with
     | zero => exact absurd HA.out (by simp [pack_Take.l0])
     | succ k2 =>
      have H := HA.out
      clear HA
      simp only [pack_Take.l0] at H
      by_cases c7 : x19_2 < a1
      ·rw [if_pos c7] at H
       have c7b0 : decide (x19_2 < a1) = true := decide_eq_true c7
       clear c7
       by_cases c8 : 0 ≤ x19_2
       ·rw [if_pos c8] at H
        have c8b0 : decide (0 ≤ x19_2) = true := decide_eq_true c8
        clear c8
        by_cases c9 : x19_2 < (l0.length : Int)
        ·rw [if_pos c9] at H
         have c9b0 : decide (x19_2 < (l0.length : Int)) = true := decide_eq_true c9
         clear c9
         have H' := Aside0.mk H
         clear H
         have p142 : 0 ≤ (x19_2 : Int) := odt
         have q142 : x19_2 < (l0.length : Int) := odt
         obtain ⟨ad142, e142, hx142_0⟩ := Kd.at_int HR0.out x19_2 p142 q142
         cases e142
         replace hx142_0 := (HB.out.cell (World.block_lt_of_cell? w _ hx142_0)).trans hx142_0
         replace p142 := eq_true p142
         replace q142 := eq_true q142
         go_wp2
         go_roundg k2
         case measure => have := HJ2.out; have := HK2.out; omega
         case rel => exact ⟨(Go.bits .or .i64 (wrap64 (x7_2 * 256)) (wrap64 (rd l0 x19_2))), (wrap64 (x19_2 + 1)), (by first | rfl | (simp; done) | (simp [*]; done)), (by first | rfl | (simp; done) | (simp [*]; done)), H', ⟨by have := HJ2.out; have := HK2.out; omega⟩, ⟨by repeat (first | (with_reducible first | exact HB.out | apply below_alloc | apply pw_below_drewN | apply below_drew1) | exact HB.out)⟩⟩
        ·rw [if_neg c9] at H
         exact absurd H (by simp)
       ·rw [if_neg c8] at H
        exact absurd H (by simp)
      ·rw [if_neg c7] at H
       have c7b0 : decide (x19_2 < a1) = false := decide_eq_false c7
       clear c7
       by_cases c10 : 0 ≤ a1
       ·rw [if_pos c10] at H
        have c10b0 := eq_true c10
        have c10b1 : decide (0 ≤ a1) = true := decide_eq_true c10
        clear c10
        by_cases c11 : a1 ≤ (l0.length : Int)
        ·rw [if_pos c11] at H
         have c11b0 := eq_true c11
         have c11b1 : decide (a1 ≤ (l0.length : Int)) = true := decide_eq_true c11
         clear c11
         replace H := Option.bind_eq_some_iff.mp H
         obtain ⟨t144, A120, H⟩ := H
         replace H : (some (x7_2, t144, 0)) = some (r1, r2, r3) := H
         have A12 := Aside0.mk A120
         clear A120
         simp only [Option.some.injEq, Prod.mk.injEq] at H
         obtain ⟨rfl, rfl, rfl⟩ := H
         obtain ⟨i013, hi013, _, hsz13, _⟩ := info_parts info5
         obtain ⟨A13, hcut13, hA13, hC13⟩ := print_drop_of (P := Try.prog) (Value.int .u8) 0 29 5 .i64 Try.underlying29 hi013 hsz13 A0 c0 l0 a1 (odt) (odt) HC0.out
         have HR143 := Aside0.mk (Kd.C_of_reads (h1 := fun _ => rfl) (hA13 _ (Kd.reads_of_C HR0.out)))
         have HC143 := Aside0.mk hC13
         clear hA13 hC13 hi013 hsz13
         go_wp2_with (first | ((with_reducible refine gate_callee (f := 57) rfl ?_); refine goesL_ (some 35) rfl rfl Try.func57 (by kernel_rfl) rfl #[.slice A13 (l0.drop (a1 : Int).toNat).length (c0 - a1.toNat)] rfl (by (try simp only [List.map_toArray, List.map_cons, List.map_nil]); first | done | (rw [show (l0.drop (a1 : Int).toNat).length = (l0.length - a1.toNat) from List.length_drop] <;> rfl) | rfl | (simp only [List.length_drop, List.length_take]; rfl)) ?_; (with_reducible refine (bytes_Clone.calls _ _ (l0.drop (a1 : Int).toNat) t144 _ ?side1 ?side2 A12.out).mono ?_); (case side1 => repeat (first | exact (Kd.C_below HR143.out HB.out) | (with_reducible apply Kd.C_alloc) | (with_reducible apply Kd.C_drewN) | (with_reducible apply Kd.C_drew))); (case side2 => exact HC143.out); rintro e w14 ⟨v145, rfl, ho0, hb⟩; refine ⟨_, rfl, ?_⟩; have n0_ := Aside0.mk (Kd.R_lower ho0 (below_size (by repeat (first | (with_reducible first | exact HB.out | apply below_alloc | apply pw_below_drewN | apply below_drew1) | exact HB.out)))); have n1_ := Aside0.mk (below_step (by repeat (first | (with_reducible first | exact HB.out | apply below_alloc | apply pw_below_drewN | apply below_drew1) | exact HB.out)) hb); clear HB; have HO146 := n0_; have HB := n1_; clear n0_ n1_; (try clear hb); (try clear hb2); (try clear hk); (try clear hi); (try clear ho0)))
         go_ret3
         exact ⟨_, by first | rfl | (simp [errW_none, errW_some] <;> rfl) | (simp [*, errW_none, errW_some] <;> rfl), by (with_reducible repeat (first | apply Kd.R_alloc | apply Kd.R_drewN | apply Kd.R_drew)); exact HO146.out, by repeat (first | (with_reducible first | exact HB.out | apply below_alloc | apply pw_below_drewN | apply below_drew1) | exact HB.out)⟩
        ·rw [if_neg c11] at H
         exact absurd H (by simp)
       ·rw [if_neg c10] at H
        exact absurd H (by simp)

/-! ### tfm_in_take: function 53 -/
-- by hand
/-- What stays while a font is taken: all that was there at first, and what is no state, no font, no row of characters or steps. -/
def tfm_in_take.Keeps (w0 u u' : World) : Prop := u.heap.size ≤ u'.heap.size ∧ (∀ k, k < w0.heap.size → u'.heap[k]? = u.heap[k]?) ∧ (∀ (k : Nat) (cs : Array Value) (t : TypeId) (fr : Nat × Nat), u.heap[k]? = some (Obj.cells cs t fr) → t ≠ 64 → t ≠ 26 → t ≠ 42 → t ≠ 51 → t ≠ 66 → u'.heap[k]? = u.heap[k]?)
/-- All that lies stays, block g apart. -/
def tfm_in_take.Stays (g : Nat) (w w' : World) : Prop := w.heap.size ≤ w'.heap.size ∧ ∀ k o, w.heap[k]? = some o → k ≠ g → w'.heap[k]? = some o
theorem tfm_in_take.stays_t {g : Nat} {a b c : World} (h : tfm_in_take.Stays g a b) (k : tfm_in_take.Stays g b c) : tfm_in_take.Stays g a c := ⟨Nat.le_trans h.1 k.1, fun i o hi hn => k.2 i o (h.2 i o hi hn) hn⟩
theorem tfm_in_take.stays_below {g : Nat} {w w' : World} (hb : Below w.heap.size w w') : tfm_in_take.Stays g w w' := ⟨hb.size, fun k o hk _ => (hb.block k (Array.getElem?_eq_some_iff.1 hk).1).trans hk⟩
theorem tfm_in_take.stays_set {g : Nat} {w : World} (j : Nat) (v : Value) : tfm_in_take.Stays g w (w.setCell ⟨g, j, none⟩ v) := ⟨Nat.le_of_eq (World.size_setCell w _ _).symm, fun k o hk hn => (Below.heap_setCell w ⟨g, j, none⟩ v k hn).trans hk⟩
theorem tfm_in_take.keeps_r (w0 u : World) : tfm_in_take.Keeps w0 u u := ⟨Nat.le_refl _, fun _ _ => rfl, fun _ _ _ _ _ _ _ _ _ _ => rfl⟩
theorem tfm_in_take.keeps_t {w0 a b c : World} (h : tfm_in_take.Keeps w0 a b) (k : tfm_in_take.Keeps w0 b c) : tfm_in_take.Keeps w0 a c :=
 ⟨Nat.le_trans h.1 k.1, fun i hi => (k.2.1 i hi).trans (h.2.1 i hi), fun i cs t fr hi h1 h2 h3 h4 h5 => (k.2.2 i cs t fr ((h.2.2 i cs t fr hi h1 h2 h3 h4 h5).trans hi) h1 h2 h3 h4 h5).trans (h.2.2 i cs t fr hi h1 h2 h3 h4 h5)⟩
theorem tfm_in_take.keeps_stays {w0 u u' : World} {g : Nat} {cs : Array Value} {fr : Nat × Nat} (h : tfm_in_take.Stays g u u') (hw : w0.heap.size ≤ u.heap.size) (hb : w0.heap.size ≤ g) (hg : u.heap[g]? = some (.cells cs 64 fr)) : tfm_in_take.Keeps w0 u u' := by
 refine ⟨h.1, fun k hk => ?_, fun k cs' t fr' hk h1 _ _ _ _ => ?_⟩
 ·have hlt : k < u.heap.size := Nat.lt_of_lt_of_le hk hw
  have e : u.heap[k]? = some u.heap[k] := Array.getElem?_eq_getElem hlt
  exact (h.2 k _ e (by omega)).trans e.symm
 ·rw [hk]
  refine h.2 k _ hk (fun e => ?_)
  subst e
  rw [hg] at hk
  simp only [Option.some.injEq, Obj.cells.injEq] at hk
  exact h1 hk.2.1.symm
/-- A row of the call's own of bytes, or of numbers, stays. -/
theorem tfm_in_take.keeps_R {k : IntKind} {e base : Nat} {ok : Nat → Prop} {v : Value} {xs : List Int} {w0 u u' : World} (h : Kd.R (Kd.int k) e u base ok v xs) (hk : tfm_in_take.Keeps w0 u u') (h1 : e ≠ 64) (h2 : e ≠ 26) (h3 : e ≠ 42) (h4 : e ≠ 51) (h5 : e ≠ 66) : Kd.R (Kd.int k) e u' base ok v xs :=
 Kd.R_mono (Kd.R_step (Kd.R_tight rfl h) (fun j hj _ => by
  obtain ⟨cells, hcs⟩ := Kd.R_typed h j hj.symm
  exact hk.2.2 j cells e _ hcs h1 h2 h3 h4 h5)) (fun j hj => h.1 j hj.symm)
theorem tfm_in_take.firm_R {ok : Nat → Prop} {base c : Nat} {A : Option Addr} {xs : List Int} {w0 u : World} (h : Kd.R (Kd.int .u8) 5 u base ok (.slice A xs.length c) xs) : ∀ u', tfm_in_take.Keeps w0 u u' → Kd.C (Kd.int .u8) u' A xs.length xs := fun u' hk =>
 (Kd.R_reads' (tfm_in_take.keeps_R h hk (by decide) (by decide) (by decide) (by decide) (by decide))).2.2
theorem tfm_in_take.firm_came {A : Option Addr} {xs : List Int} {w0 u : World} (h : Kd.C (Kd.int .u8) w0 A xs.length xs) (hB : Below w0.heap.size w0 u) : ∀ u', tfm_in_take.Keeps w0 u u' → Kd.C (Kd.int .u8) u' A xs.length xs := fun u' hk =>
 (Kd.heap_int .u8).C (fun k hlt => (hk.2.1 k hlt).trans (hB.block k hlt)) h
/-- The state: what is left, and whether there was too little. -/
def tfm_in_take.Holds (w0 u : World) (g : Nat) (xs : List Int) (bad : Bool) : Prop :=
 ∃ A c, u.heap[g]? = some (.cells #[.slice A xs.length c, .bool bad] 64 (0, 0)) ∧ xs.length ≤ c ∧ ∀ u', tfm_in_take.Keeps w0 u u' → Kd.C (Kd.int .u8) u' A xs.length xs
theorem tfm_in_take.holds_keeps {w0 u u' : World} {g : Nat} {xs : List Int} {bad : Bool} (h : tfm_in_take.Holds w0 u g xs bad) (hk : tfm_in_take.Keeps w0 u u') (hg : u'.heap[g]? = u.heap[g]?) : tfm_in_take.Holds w0 u' g xs bad := by
 obtain ⟨A, c, h1, h2, h3⟩ := h
 exact ⟨A, c, hg.trans h1, h2, fun u2 k2 => h3 u2 (tfm_in_take.keeps_t hk k2)⟩
theorem tfm_in_take.keeps_below {w0 u u' : World} (hb : Below u.heap.size u u') (hw : w0.heap.size ≤ u.heap.size) : tfm_in_take.Keeps w0 u u' :=
 ⟨hb.size, fun k hk => hb.block k (Nat.lt_of_lt_of_le hk hw), fun k cs t fr hk _ _ _ _ _ => hb.block k (Array.getElem?_eq_some_iff.1 hk).1⟩
theorem tfm_in_take.holds_below {w0 u u' : World} {g : Nat} {xs : List Int} {bad : Bool} (h : tfm_in_take.Holds w0 u g xs bad) (hb : Below u.heap.size u u') (hw : w0.heap.size ≤ u.heap.size) : tfm_in_take.Holds w0 u' g xs bad := by
 have hg : g < u.heap.size := by obtain ⟨_, _, h1, _⟩ := h; exact (Array.getElem?_eq_some_iff.1 h1).1
 exact tfm_in_take.holds_keeps h (tfm_in_take.keeps_below hb hw) (hb.block g hg)
theorem tfm_in_take.R_set {d : Kd Int} {e base g t j : Nat} {ok : Nat → Prop} {v u : Value} {xs : List Int} {w : World} {cs : Array Value} (h : Kd.R d e w base ok v xs) (hE : d.E = []) (hg : w.heap[g]? = some (.cells cs t (0, 0))) (ht : e ≠ t) : Kd.R d e (w.setCell ⟨g, j, none⟩ u) base ok v xs :=
 Kd.R_mono (Kd.R_step (Kd.R_tight hE h) (fun i hi _ => Below.heap_setCell w ⟨g, j, none⟩ u i (fun e2 => Kd.R_ne h hg ht (by have e3 : i = g := e2; rw [← e3]; exact hi)))) (fun i hi => h.1 i hi.symm)
theorem tfm_in_take.stays_grown {g : Nat} {u w w' : World} {row : Option Nat} (h : tfm_in_take.Stays g u w) (hg : w.grownBy w' row) (hr : ∀ k, row = some k → u.heap.size ≤ k) : tfm_in_take.Stays g u w' :=
 ⟨Nat.le_trans h.1 hg.size, fun k o hk hn => by
  have hlt := (Array.getElem?_eq_some_iff.1 hk).1
  exact (hg.block k (Nat.lt_of_lt_of_le hlt h.1) (fun e => by have := hr k e.symm; omega)).trans (h.2 k o hk hn)⟩
theorem tfm_in_take.keeps_grown {w0 u w w' : World} {row : Option Nat} (h : tfm_in_take.Keeps w0 u w) (hg : w.grownBy w' row) (hr : ∀ k, row = some k → u.heap.size ≤ k) (hw : w0.heap.size ≤ u.heap.size) : tfm_in_take.Keeps w0 u w' := by
 have hx : ∀ k, k < u.heap.size → some k ≠ row := fun k hk e => by have := hr k e.symm; omega
 refine ⟨Nat.le_trans h.1 hg.size, fun k hk => ?_, fun k cs t fr hk h1 h2 h3 h4 h5 => ?_⟩
 ·exact (hg.block k (Nat.lt_of_lt_of_le (Nat.lt_of_lt_of_le hk hw) h.1) (hx k (Nat.lt_of_lt_of_le hk hw))).trans (h.2.1 k hk)
 ·have hlt := (Array.getElem?_eq_some_iff.1 hk).1
  exact (hg.block k (Nat.lt_of_lt_of_le hlt h.1) (hx k hlt)).trans (h.2.2 k cs t fr hk h1 h2 h3 h4 h5)
theorem tfm_in_take.keeps_set {w0 u w : World} {g j : Nat} {cs : Array Value} {v : Value} (h : tfm_in_take.Keeps w0 u w) (hw : w0.heap.size ≤ w.heap.size) (hb : w0.heap.size ≤ g) (hg : w.heap[g]? = some (.cells cs 64 (0, 0))) : tfm_in_take.Keeps w0 u (w.setCell ⟨g, j, none⟩ v) :=
 tfm_in_take.keeps_t h (tfm_in_take.keeps_stays (tfm_in_take.stays_set _ _) hw hb hg)
def tfm_in_take.f (k : Nat) (z : Int) (xs : List Int) (bad : Bool) : Option (Int × List Int × Bool) :=
 (pack_Take.f k xs z).bind fun r => if r.2.2 = 0 then some (r.1, r.2.1, bad) else some (0, xs, true)
theorem tfm_in_take.mono (k : Nat) (z : Int) (xs : List Int) (bad : Bool) : LeO (tfm_in_take.f k z xs bad) (tfm_in_take.f (k + 1) z xs bad) := LeO.bind (pack_Take.mono _ _ _) (fun _ => LeO.refl _)
set_option maxHeartbeats 4000000 in
theorem tfm_in_take.calls (k : Nat) (z : Int) (xs : List Int) (bad : Bool) (n : Int) (ys : List Int) (bad' : Bool) (g : Nat) (w0 u : World) (hB : Below w0.heap.size w0 u) (hb : w0.heap.size ≤ g) (h : tfm_in_take.Holds w0 u g xs bad) (hp : tfm_in_take.f k z xs bad = some (n, ys, bad')) :
  Calls Try.prog 53 #[.pointer (some ⟨g, 0, none⟩), .int .i64 z] u fun e u' => e = .returned (.int .i64 n) ∧ tfm_in_take.Holds w0 u' g ys bad' ∧ Below w0.heap.size w0 u' ∧ tfm_in_take.Stays g u u' := by
 obtain ⟨⟨r1, r2, r3⟩, ht, hp⟩ := Option.bind_eq_some_iff.mp hp
 obtain ⟨A, c, h1, h2, h3⟩ := h
 have hu := Try.underlying64
 have H1 := Aside0.mk h1
 have H3 := Aside0.mk h3
 have HC := Aside0.mk (h3 u (tfm_in_take.keeps_r _ _))
 have HC2 := Aside0.mk h2
 have HG := Aside0.mk hb
 have HB := Aside0.mk hB
 have HH := Aside0.mk ht
 have HW := Aside0.mk hB.size
 have hx := blk_cell h1
 have hy := blk_frozen h1
 clear h1 h2 h3 hb hB ht
 by_cases hz : r3 = 0
 ·subst hz
  obtain ⟨rfl, rfl, rfl⟩ : r1 = n ∧ r2 = ys ∧ bad = bad' := by simpa using hp
  clear hp
  go_enter Try.func53, Try.ntmps53
  go_wp2_with (first | (go_at_call 61; (with_reducible refine (pack_Take.calls k A c xs z r1 r2 _ _ HC.out HC2.out HH.out).mono ?_); rintro e w2 ⟨v2, rfl, hr, hbw⟩; obtain ⟨A2, c2, e2⟩ := Kd.R_slice hr; subst e2; have P2 := blk_below H1.out hbw; have HP2 := Aside0.mk P2; have hq := blk_cell P2; have hfq := blk_frozen P2; have HR2 := Aside0.mk (Kd.R_lower hr HB.out.size); have HB2 := Aside0.mk (HB.out.trans (hbw.mono HB.out.size)); have HBW := Aside0.mk hbw; clear hx hy P2 hr hbw))
  go_ret
  refine ⟨rfl, ⟨A2, c2, ?_, (Kd.R_reads' HR2.out).2.1, tfm_in_take.firm_R (tfm_in_take.R_set HR2.out rfl HP2.out (by decide))⟩, HB2.out.setCell (p := ⟨g, 0, none⟩) HG.out _, tfm_in_take.stays_t (tfm_in_take.stays_below HBW.out) (tfm_in_take.stays_set _ _)⟩
  have := blk_put (cs' := #[.slice A2 r2.length c2, .bool bad]) HP2.out 0 (.slice A2 r2.length c2) rfl
  exact this
 ·have hne : (r3 != 0) = true := bne_iff_ne.mpr hz
  simp only [if_neg hz] at hp
  obtain ⟨rfl, rfl, rfl⟩ : 0 = n ∧ xs = ys ∧ true = bad' := by simpa using hp
  clear hp hz
  go_enter Try.func53, Try.ntmps53
  go_wp2_with (first | (go_at_call 61; (with_reducible refine (pack_Take.calls k A c xs z r1 r2 _ _ HC.out HC2.out HH.out).mono ?_); rintro e w2 ⟨v2, rfl, hr, hbw⟩; obtain ⟨A2, c2, e2⟩ := Kd.R_slice hr; subst e2; have P2 := blk_below H1.out hbw; have HP2 := Aside0.mk P2; have hq := blk_cell P2; have hfq := blk_frozen P2; have HR2 := Aside0.mk (Kd.R_lower hr HB.out.size); have HB2 := Aside0.mk (HB.out.trans (hbw.mono HB.out.size)); have HBW := Aside0.mk hbw; clear hx hy P2 hr hbw))
  go_ret
  have hst : tfm_in_take.Stays g u (w2.setCell ⟨g, 1, none⟩ (.bool true)) := tfm_in_take.stays_t (tfm_in_take.stays_below HBW.out) (tfm_in_take.stays_set _ _)
  refine ⟨rfl, ⟨A, c, ?_, HC2.out, fun u2 hk => H3.out u2 (tfm_in_take.keeps_t (tfm_in_take.keeps_stays hst HW.out HG.out H1.out) hk)⟩, HB2.out.setCell (p := ⟨g, 1, none⟩) HG.out _, hst⟩
  have := blk_put (cs' := #[.slice A xs.length c, .bool true]) HP2.out 1 (.bool true) rfl
  exact this

/-! ### tfm_in_two: function 35 -/
-- by hand
theorem tfm_in_two.calls (k : Nat) (xs : List Int) (bad : Bool) (n : Int) (ys : List Int) (bad' : Bool) (g : Nat) (w0 u : World) (hB : Below w0.heap.size w0 u) (hb : w0.heap.size ≤ g) (h : tfm_in_take.Holds w0 u g xs bad) (hp : tfm_in_take.f k 2 xs bad = some (n, ys, bad')) :
  Calls Try.prog 35 #[.pointer (some ⟨g, 0, none⟩)] u fun e u' => e = .returned (.int .i64 n) ∧ tfm_in_take.Holds w0 u' g ys bad' ∧ Below w0.heap.size w0 u' ∧ tfm_in_take.Stays g u u' := by
 have HT := Aside0.mk (tfm_in_take.calls k 2 xs bad n ys bad' g w0 u hB hb h hp)
 clear h hp hB hb
 go_enter Try.func35, Try.ntmps35
 go_wp2_with (first | (go_at_call 53; (with_reducible refine HT.out.mono ?_); rintro e w2 ⟨rfl, hh, hb2, hs2⟩; have HH := Aside0.mk hh; have HB2 := Aside0.mk hb2; have HS := Aside0.mk hs2; clear hh hb2 hs2))
 go_ret
 exact ⟨rfl, HH.out, HB2.out, HS.out⟩

/-! ### tfm_in_four: function 36 -/
-- by hand
theorem tfm_in_four.calls (k : Nat) (xs : List Int) (bad : Bool) (n : Int) (ys : List Int) (bad' : Bool) (g : Nat) (w0 u : World) (hB : Below w0.heap.size w0 u) (hb : w0.heap.size ≤ g) (h : tfm_in_take.Holds w0 u g xs bad) (hp : tfm_in_take.f k 4 xs bad = some (n, ys, bad')) :
  Calls Try.prog 36 #[.pointer (some ⟨g, 0, none⟩)] u fun e u' => e = .returned (.int .i64 n) ∧ tfm_in_take.Holds w0 u' g ys bad' ∧ Below w0.heap.size w0 u' ∧ tfm_in_take.Stays g u u' := by
 have HT := Aside0.mk (tfm_in_take.calls k 4 xs bad n ys bad' g w0 u hB hb h hp)
 clear h hp hB hb
 go_enter Try.func36, Try.ntmps36
 go_wp2_with (first | (go_at_call 53; (with_reducible refine HT.out.mono ?_); rintro e w2 ⟨rfl, hh, hb2, hs2⟩; have HH := Aside0.mk hh; have HB2 := Aside0.mk hb2; have HS := Aside0.mk hs2; clear hh hb2 hs2))
 go_ret
 exact ⟨rfl, HH.out, HB2.out, HS.out⟩

/-! ### tfm_in_each: function 37 -/
-- by hand
def tfm_in_each.f : Nat → List Int → Bool → List (List Int) → List (List Int) × List Int × Bool
 | 0, xs, bad, acc => (acc, xs, bad)
 | m + 1, xs, bad, acc => if xs.length < 4 then (acc, xs, true) else tfm_in_each.f m (xs.drop 4) bad (acc ++ [xs.take 4])
set_option maxHeartbeats 4000000 in
theorem tfm_in_each.calls {q : Nat} {lb : Array Value} (I : List (List Int) → World → Prop) (eg : ∀ args w, (callFunc q args).run Try.prog w = .ok (.enter q args) w) (z : Int) (hz : z < 1000000) (xs : List Int) (bad : Bool) (ch : List (List Int)) (zs : List Int) (bad' : Bool) (g : Nat) (w0 u : World) (hB : Below w0.heap.size w0 u) (hb : w0.heap.size ≤ g) (h : tfm_in_take.Holds w0 u g xs bad) (hI0 : I [] u)
  (hIs : ∀ acc u1 (j : Nat) (v : Value) (cs : Array Value), I acc u1 → u1.heap[g]? = some (.cells cs 64 (0, 0)) → I acc (u1.setCell ⟨g, j, none⟩ v))
  (hq : ∀ (acc : List (List Int)) u1 A c (x : List Int), x.length = 4 → I acc u1 → Below w0.heap.size w0 u1 → x.length ≤ c → Kd.C (Kd.int .u8) u1 A x.length x → ∀ cs, u1.heap[g]? = some (.cells cs 64 (0, 0)) → acc.length < 1000000 → Calls Try.prog q (#[.slice A x.length c] ++ lb) u1 fun e u2 => e = .returned (.tuple #[]) ∧ I (acc ++ [x]) u2 ∧ Below w0.heap.size w0 u2 ∧ tfm_in_take.Keeps w0 u1 u2 ∧ u2.heap[g]? = u1.heap[g]?)
  (hp : tfm_in_each.f z.toNat xs bad [] = (ch, zs, bad')) :
  Calls Try.prog 37 #[.pointer (some ⟨g, 0, none⟩), .int .i64 z, .func (.func q) #[] lb] u fun e u' => e = .returned (.tuple #[]) ∧ I ch u' ∧ tfm_in_take.Holds w0 u' g zs bad' ∧ Below w0.heap.size w0 u' ∧ tfm_in_take.Keeps w0 u u' := by
 have hu := Try.underlying64
 have HG := Aside0.mk hb
 have HB := Aside0.mk hB
 have H0 := Aside0.mk h
 have HP := Aside0.mk hp
 have HZ := Aside0.mk hz
 have HI := Aside0.mk hI0
 have HIS := Aside0.mk hIs
 have HQ := Aside0.mk hq
 clear hb hB h hp hI0 hIs hq
 go_enter Try.func37, Try.ntmps37
 go_wp2
 go_loopw [7] (fun v7 wr => ∃ (i : Nat) (ys : List Int) (b : Bool) (acc : List (List Int)), i ≤ z.toNat ∧ acc.length = i ∧ v7 = .int .i64 i ∧ Aside0 (tfm_in_each.f (z.toNat - i) ys b acc = (ch, zs, bad')) ∧ Aside0 (I acc wr) ∧ Aside0 (tfm_in_take.Holds w0 wr g ys b) ∧ Aside0 (Below w0.heap.size w0 wr) ∧ Aside0 (tfm_in_take.Keeps w0 u wr)) (fun v7 _ => z.toNat - (intOf v7).toNat)
 case atStart => exact ⟨0, xs, bad, [], Nat.zero_le _, rfl, rfl, HP, HI, H0, HB, ⟨tfm_in_take.keeps_r _ _⟩⟩
 case round =>
  clear H0 HP HB HI
  obtain ⟨i, ys, b, acc, hii, hal, rfl, HP, HI, H0, HB, HKP⟩ := hrel
  obtain ⟨A, c, h1, h2, h3⟩ := H0.out
  have H1 := Aside0.mk h1
  have H2 := Aside0.mk h2
  have H3 := Aside0.mk h3
  have hC := h3 wr (tfm_in_take.keeps_r _ _)
  have HC := Aside0.mk hC
  have hm := hC.2.1
  have hx := blk_cell h1
  have hy := blk_frozen h1
  have HAL := Aside0.mk hal
  clear h1 h3 hal hC
  by_cases hlt : i < z.toNat
  ·have hltz : (i : Int) < z := by omega
   have hz9 := HZ.out
   obtain ⟨m, hm1⟩ : ∃ m, z.toNat - i = m + 1 := ⟨z.toNat - i - 1, by omega⟩
   have hm2 : m = z.toNat - (i + 1) := by omega
   have hq := HP.out
   rw [hm1, tfm_in_each.f, hm2] at hq
   clear hm1 hm2 H0
   by_cases hl4 : ys.length < 4
   ·have hlz : decide ((ys.length : Int) < 4) = true := decide_eq_true (by omega)
    have hlz2 : decide (ys.length < 4) = true := decide_eq_true hl4
    rw [if_pos hl4] at hq
    obtain ⟨rfl, rfl, rfl⟩ : acc = ch ∧ ys = zs ∧ true = bad' := by simpa using hq
    clear hq hl4 h2
    go_wp2
    (try simp only [Exit.inBlock, Exit.then])
    refine bodyPost_ret (results_none rfl _ _ _) rfl ?_
    refine ⟨rfl, HIS.out _ _ _ _ _ HI.out H1.out, ⟨A, c, ?_, H2.out, fun u2 hk => H3.out u2 (tfm_in_take.keeps_t (tfm_in_take.keeps_stays (tfm_in_take.stays_set _ _) HB.out.size HG.out H1.out) hk)⟩, HB.out.setCell (p := ⟨g, 1, none⟩) HG.out _, tfm_in_take.keeps_set HKP.out HB.out.size HG.out H1.out⟩
    have := blk_put (cs' := #[.slice A ys.length c, .bool true]) H1.out 1 (.bool true) rfl
    exact this
   ·have hlz : decide ((ys.length : Int) < 4) = false := decide_eq_false (by omega)
    have hlz2 : decide (ys.length < 4) = false := decide_eq_false hl4
    rw [if_neg hl4] at hq
    obtain ⟨y4, hy4⟩ : ∃ y4, y4 = ys.take 4 := ⟨_, rfl⟩
    obtain ⟨z4, hz4⟩ : ∃ z4, z4 = ys.drop 4 := ⟨_, rfl⟩
    obtain ⟨i0, hi0, _, hsz0, _⟩ := info_parts info5
    obtain ⟨T1, T2, T3⟩ := print_take_of (P := Try.prog) (Value.int .u8) 0 29 5 .i64 Try.underlying29 hi0 hsz0 A c ys ((4 : Nat) : Int) (by omega) (by omega) h2
    simp only [Int.toNat_natCast] at T1 T2 T3
    rw [← hy4] at T1 T2 T3 hq
    rw [← hz4] at hq
    have HZL := Aside0.mk (show z4.length = ys.length - 4 from by rw [hz4, List.length_drop])
    have HA := Aside0.mk hq
    have HY4 := Aside0.mk (show y4.length = 4 from by rw [hy4, List.length_take]; omega)
    have HCy := Aside0.mk (fun u2 (hk : tfm_in_take.Keeps w0 wr u2) => show Kd.C (Kd.int .u8) u2 A y4.length y4 from Kd.C_of_reads (h1 := fun _ => rfl) (T2 _ (Kd.reads_of_C (H3.out u2 hk))))
    have HCz := Aside0.mk (fun u2 (hk : tfm_in_take.Keeps w0 wr u2) => show Kd.C (Kd.int .u8) u2 (if c = 4 then A else Option.map (fun x : Addr => (⟨x.block, x.off + 4, none⟩ : Addr)) A) z4.length z4 from by rw [hz4]; exact Kd.C_drop (m := 4) (H3.out u2 hk) (by omega) h2)
    have HT3 := Aside0.mk T3
    have HGE4 := Aside0.mk (show 4 ≤ ys.length from by omega)
    have HD3 := Aside0.mk (show z4.length ≤ c - 4 from by rw [hz4, List.length_drop]; omega)
    have hq1 := HQ.out acc wr A c y4 HY4.out HI.out HB.out HT3.out (HCy.out wr (tfm_in_take.keeps_r _ _)) _ H1.out (by have h8 := HAL.out; omega)
    rw [HY4.out] at hq1
    have HQ1 := Aside0.mk hq1
    clear hq1
    clear hl4 T2 T3 hy4 hz4 hq HP h2 HI
    go_wp2_with (first | (go_at_fn q; refine HQ1.out.mono ?_; rintro e w2 ⟨rfl, hi2, hb2, hk2, hg2⟩; have P2 := hg2.trans H1.out; have HP2 := Aside0.mk P2; clear hx hy; have hx := blk_cell P2; have hy := blk_frozen P2; have HI := Aside0.mk hi2; have HB2 := Aside0.mk hb2; have HK2 := Aside0.mk hk2; clear hi2 hb2 hk2 hg2 P2))
    go_roundw
    case rel =>
     have hset : tfm_in_take.Keeps w0 w2 (w2.setCell ⟨g, 0, none⟩ (.slice (if c = 4 then A else Option.map (fun x : Addr => (⟨x.block, x.off + 4, none⟩ : Addr)) A) (ys.length - 4) (c - 4))) := tfm_in_take.keeps_stays (tfm_in_take.stays_set _ _) HB2.out.size HG.out HP2.out
     refine ⟨i + 1, z4, b, acc ++ [y4], by omega, by rw [List.length_append, HAL.out]; rfl, by go_num, HA, ⟨HIS.out _ _ _ _ _ HI.out HP2.out⟩, ⟨⟨(if c = 4 then A else Option.map (fun x : Addr => (⟨x.block, x.off + 4, none⟩ : Addr)) A), c - 4, ?_, HD3.out, fun u2 hk => HCz.out u2 (tfm_in_take.keeps_t HK2.out (tfm_in_take.keeps_t hset hk))⟩⟩, ⟨HB2.out.setCell (p := ⟨g, 0, none⟩) HG.out _⟩, ⟨tfm_in_take.keeps_t HKP.out (tfm_in_take.keeps_t HK2.out hset)⟩⟩
     have := blk_put (cs' := #[.slice (if c = 4 then A else Option.map (fun x : Addr => (⟨x.block, x.off + 4, none⟩ : Addr)) A) (ys.length - 4) (c - 4), .bool b]) HP2.out 0 (.slice (if c = 4 then A else Option.map (fun x : Addr => (⟨x.block, x.off + 4, none⟩ : Addr)) A) (ys.length - 4) (c - 4)) rfl
     rw [HZL.out]
     exact this
    case measure => simp [intOf]; omega
    all_goals (exfalso; have h8 := HGE4.out; have h9 := H2.out; omega)
  ·have hge : decide ((i : Int) < z) = false := decide_eq_false (by omega)
   have hq := HP.out
   rw [show z.toNat - i = 0 by omega, tfm_in_each.f] at hq
   obtain ⟨rfl, rfl, rfl⟩ : acc = ch ∧ ys = zs ∧ b = bad' := by simpa using hq
   clear hq HP
   go_wp2
   go_end0
   exact ⟨rfl, HI.out, H0.out, HB.out, HKP.out⟩

end Go.Proofs.Ytpijgpjoobffoaa.G
