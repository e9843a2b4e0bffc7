/- Contracts of the functions of this seat: what each call computes, as a plain Lean function. Made by this session's own generator. -/
import Derived.Test.YtpijgpjoobffoaaGx0
namespace Go.Proofs.Ytpijgpjoobffoaa.G
open Go.RowKit Go.Proofs.YtpijgpjoobffoaaMy Go.Proofs.YtpijgpjoobffoaaW.PrintWords Go.Proofs.YtpijgpjoobffoaaW.PrintLast Go.Proofs.YtpijgpjoobffoaaW.PrintMore
attribute [local go_sem] max2_int min2_int max_two min_two max_three min_three max_four min_four   -- for this text's walks alone
set_option linter.unusedVariables false
set_option linter.unusedSimpArgs false

/-! ### pack_sized: function 56 -/
def pack_sized.f (a0 : Int) : Option (Bool) := if a0 ≥ 1 then (some (decide (a0 ≤ 4))) else (some false)
set_option maxHeartbeats 8000000 in
set_option maxRecDepth 100000 in
theorem pack_sized.calls (a0 : Int) (r : Bool) (w : World) (h : pack_sized.f a0 = some r) :
  Calls Try.prog 56 #[.int .i64 a0] w fun e w' => e = .returned (.bool r) ∧ Drawn0 w w' := by
 have H : (if a0 ≥ 1 then (some (decide (a0 ≤ 4))) else (some false)) = some r := h
 clear h
 by_cases c2 : a0 ≥ 1
 ·rw [if_pos c2] at H
  have c2b0 : decide (1 ≤ a0) = true := decide_eq_true c2
  clear c2
  obtain rfl := Option.some.inj H
  go_enter Try.func56, Try.ntmps56
  go_wp2
  go_ret
  exact ⟨by first | rfl | (simp; done) | (simp [*]; done), by repeat (first | exact Drawn0.refl _ | apply Drawn0.step)⟩
 ·rw [if_neg c2] at H
  have c2b0 : decide (1 ≤ a0) = false := decide_eq_false c2
  clear c2
  obtain rfl := Option.some.inj H
  go_enter Try.func56, Try.ntmps56
  go_wp2
  go_ret
  exact ⟨by first | rfl | (simp; done) | (simp [*]; done), by repeat (first | exact Drawn0.refl _ | apply Drawn0.step)⟩

/-! ### bytes_Clone: function 57 -/
-- by hand
def bytes_Clone.f (l0 : List Int) : Option (List Int) := if l0.length < 140737488355328 then some l0 else none
set_option maxHeartbeats 4000000 in
theorem bytes_Clone.calls (A0 : Option Addr) (c0 : Nat) (l0 : List Int) (r : List Int) (w : World) (hr0 : Kd.C (Kd.int .u8) w A0 l0.length l0) (hc0 : l0.length ≤ c0) (h : bytes_Clone.f l0 = some r) :
  Calls Try.prog 57 #[.slice A0 l0.length c0] w fun e w' => ∃ v0_ : Value, e = .returned v0_ ∧ Kd.R (Kd.int .u8) 5 w' w.heap.size (fun _ => True) v0_ r ∧ Below w.heap.size w w' := by
 have hl : l0.length < 140737488355328 := by
  unfold bytes_Clone.f at h
  split at h
  ·assumption
  ·cases h
 obtain rfl : l0 = r := by
  unfold bytes_Clone.f at h
  rw [if_pos hl] at h
  exact Option.some.inj h
 clear h
 have HR0 := Aside0.mk hr0
 clear hr0
 have hq := fun (W : World) (n c : Nat) => Lib.run_eql_slice_nil (P := Try.prog) W 29 5 A0 n c 0 0 Try.underlying29
 cases A0 with
 | none =>
  have h0 : l0 = [] := by
   rcases Nat.eq_zero_or_pos l0.length with h0 | h0
   ·exact List.eq_nil_of_length_eq_zero h0
   ·obtain ⟨_, he, _⟩ := HR0.out.2.2 h0
    cases he
  subst h0
  go_enter Try.func57, Try.ntmps57
  go_wp2
  go_ret
  exact ⟨_, rfl, Kd.R_nil _ _ _ _ _, Below.refl _ _⟩
 | some ad =>
  go_enter Try.func57, Try.ntmps57
  have HB := Aside0.mk (Below.refl w.heap.size w)
  go_wp2_with (first | ((with_reducible refine gate_dst (N := 5) rfl ?_); refine Kd.R_lit (Kd.int .u8) _ 5 ?hg (N := 5) ?hd (xs := ([] : List Int)) (inner := []) (ok := fun _ => True) (okp := fun _ => True) ?hr ?hp (fun _ hk => hk) trivial (Below.refl _ _) (Nat.le_refl _) (by simp) ?_; (case hd => rfl); (case hg => rfl); (case hr => first | (go_simp; done) | (go_simp; rfl)); (case hp => exact (Reps.none _ _)); intro v1 w1 ho12 hb hg_ hnew_; clear hg_ hnew_; have n0_ := Aside0.mk (Kd.R_lower ho12 (below_size (by repeat (first | (with_reducible first | exact HB.out | apply below_alloc | apply pw_below_drewN | apply below_drew1) | exact HB.out)))); have n1_ := Aside0.mk (below_step (by repeat (first | (with_reducible first | exact HB.out | apply below_alloc | apply pw_below_drewN | apply below_drew1) | exact HB.out)) hb); clear HB; have HO1 := n0_; have HB := n1_; clear n0_ n1_; clear hb ho12) | ((with_reducible refine gate_builtin (b := .append) (xs := #[.tmp 5, .tmp 6]) rfl ?_); at_builtin; refine Kd.R_append_rows (Kd.int .u8) (w0 := w) w.heap.size rfl (.tmp 5) (.tmp 6) 29 5 (.int .u8 0) 1 rfl Try.underlying29 info5 rfl (by decide) (by omega) v1 [] l0 _ _ _ (fun _ => True) (fun _ => False) rfl rfl ?aO ?aR (fun _ _ h => h) (fun _ h => h.elim) ?aF ?aB ?aS ?aL ?_; (case aR => (repeat (first | exact (Kd.C_below HR0.out HB.out) | (with_reducible apply Kd.C_alloc) | (with_reducible apply Kd.C_drewN) | (with_reducible apply Kd.C_drew)))); (case aB => exact (by repeat (first | (with_reducible first | exact HB.out | apply below_alloc | apply pw_below_drewN | apply below_drew1) | exact HB.out))); (case aF => exact (fun _ _ => trivial)); (case aO => exact (by (with_reducible repeat (first | apply Kd.R_alloc | apply Kd.R_drewN | apply Kd.R_drew)); exact HO1.out)); (case aS => exact (below_size (by repeat (first | (with_reducible first | exact HB.out | apply below_alloc | apply pw_below_drewN | apply below_drew1) | exact HB.out)))); (case aL => simp only [List.length_nil]; omega); intro v2 w2 ho hb hg hat; have n0_ := Aside0.mk (hb); have n1_ := Aside0.mk (ho); clear HB; clear HO1; have HB := n0_; have HO2 := n1_; clear n0_ n1_; clear ho hb hg hat))
  go_ret
  exact ⟨_, rfl, by simpa using HO2.out, HB.out⟩

/-! ### pack_Put: function 44 -/
mutual
def pack_Put.j0 : Nat → List Int → Int → Int → Bool → Option (List Int × Int)
 | 0, _, _, _, _ => none
 | k + 1, x0, x1, x2, x23 => if x23 = true then (some (([] : List Int), 60)) else ((bytes_Clone.f x0).bind fun t132 => (pack_Put.l0 k x1 x2 t132 x2 0))
def pack_Put.l0 : Nat → Int → Int → List Int → Int → Int → Option (List Int × Int)
 | 0, _, _, _, _, _ => none
 | k + 1, x1, x2, x8, x26, x27 => if x27 < x26 then (if 0 ≤ (wrap64 (8 * (wrap64 ((wrap64 (x2 - 1)) - x27)))) then (if x8.length < 140737488355328 then (pack_Put.l0 k x1 x2 (x8 ++ [(shr .i64 x1 (wrap64 (8 * (wrap64 ((wrap64 (x2 - 1)) - x27))))) % 256]) x26 (wrap64 (x27 + 1))) else (none)) else (none)) else (some (x8, 0))
end
def pack_Put.f (k : Nat) (l0 : List Int) (a1 : Int) (a2 : Int) : Option (List Int × Int) := (pack_sized.f a2).bind fun t131 => (if t131 = true then (if a1 < 0 then (pack_Put.j0 k l0 a1 a2 true) else (if 0 ≤ (wrap64 (8 * a2)) then (pack_Put.j0 k l0 a1 a2 (decide ((shr .i64 a1 (wrap64 (8 * a2))) > 0))) else (none))) else (pack_Put.j0 k l0 a1 a2 true))
theorem pack_Put.mono_l : ∀ k, (∀ y0 y1 y2 y3, LeO (pack_Put.j0 k y0 y1 y2 y3) (pack_Put.j0 (k + 1) y0 y1 y2 y3)) ∧ (∀ y0 y1 y2 y3 y4, LeO (pack_Put.l0 k y0 y1 y2 y3 y4) (pack_Put.l0 (k + 1) y0 y1 y2 y3 y4))
 | 0 => ⟨fun _ _ _ _ r h => by simp [pack_Put.j0] at h, fun _ _ _ _ _ r h => by simp [pack_Put.l0] at h⟩
 | k + 1 => by
  obtain ⟨ih0, ih1⟩ := pack_Put.mono_l k
  refine ⟨?_, ?_⟩
  ·intro y0 y1 y2 y3
   unfold pack_Put.j0
   repeat' first
   | (with_reducible exact ih0 _ _ _ _)
   | (with_reducible exact ih1 _ _ _ _ _)
   | (with_reducible exact LeO.refl _)
   | (with_reducible exact LeO.none _)
   | (with_reducible refine LeO.ite ?_ ?_)
   | (with_reducible refine LeO.bind ?_ (fun _ => ?_))
   | exact ih0 _ _ _ _
   | exact ih1 _ _ _ _ _
   | exact LeO.none _
   | refine LeO.ite ?_ ?_
   | refine LeO.bind ?_ (fun _ => ?_)
  ·intro y0 y1 y2 y3 y4
   unfold pack_Put.l0
   repeat' first
   | (with_reducible exact ih0 _ _ _ _)
   | (with_reducible exact ih1 _ _ _ _ _)
   | (with_reducible exact LeO.refl _)
   | (with_reducible exact LeO.none _)
   | (with_reducible refine LeO.ite ?_ ?_)
   | (with_reducible refine LeO.bind ?_ (fun _ => ?_))
   | exact ih0 _ _ _ _
   | exact ih1 _ _ _ _ _
   | exact LeO.none _
   | refine LeO.ite ?_ ?_
   | refine LeO.bind ?_ (fun _ => ?_)
theorem pack_Put.mono : ∀ a0 a1 a2 k, LeO (pack_Put.f k a0 a1 a2) (pack_Put.f (k + 1) a0 a1 a2) := by
 intro a0 a1 a2 k
 obtain ⟨ih0, ih1⟩ := pack_Put.mono_l k
 unfold pack_Put.f
 repeat' first
   | (with_reducible exact ih0 _ _ _ _)
   | (with_reducible exact ih1 _ _ _ _ _)
   | (with_reducible exact LeO.refl _)
   | (with_reducible exact LeO.none _)
   | (with_reducible refine LeO.ite ?_ ?_)
   | (with_reducible refine LeO.bind ?_ (fun _ => ?_))
   | exact ih0 _ _ _ _
   | exact ih1 _ _ _ _ _
   | exact LeO.none _
   | refine LeO.ite ?_ ?_
   | refine LeO.bind ?_ (fun _ => ?_)
set_option maxHeartbeats 8000000 in
set_option maxRecDepth 100000 in
theorem pack_Put.calls (k : Nat) (A0 : Option Addr) (c0 : Nat) (l0 : List Int) (a1 : Int) (a2 : Int) (r1 : List Int) (r2 : Int) (w : World) (hr0 : Kd.C (Kd.int .u8) w A0 l0.length l0) (hc0 : l0.length ≤ c0) (h : pack_Put.f k l0 a1 a2 = some (r1, r2)) :
  Calls Try.prog 44 #[.slice A0 l0.length c0, .int .i64 a1, .int .i64 a2] w fun e w' => ∃ v0_ : Value, e = .returned (.tuple #[v0_, .int .i64 r2]) ∧ Kd.R (Kd.int .u8) 5 w' w.heap.size (fun _ => True) v0_ r1 ∧ Below w.heap.size w w' := by
 have HR0 := Aside0.mk hr0
 have HC0 := Aside0.mk hc0
 clear hr0 hc0
 have HB := Aside0.mk (Below.refl w.heap.size w)
 have H : ((pack_sized.f a2).bind fun t131 => (if t131 = true then (if a1 < 0 then (pack_Put.j0 k l0 a1 a2 true) else (if 0 ≤ (wrap64 (8 * a2)) then (pack_Put.j0 k l0 a1 a2 (decide ((shr .i64 a1 (wrap64 (8 * a2))) > 0))) else (none))) else (pack_Put.j0 k l0 a1 a2 true))) = some (r1, r2) := h
 clear h
 have HC4 := Aside0.mk H
 clear H
 go_enter Try.func44, Try.ntmps44
 go_upto_region 1 with (fail)
 go_cut [23] (fun v23 wc => ∃ (kq : Nat) (x23_3 : Bool), v23 = .bool x23_3 ∧ Aside0 (pack_Put.j0 kq l0 a1 a2 x23_3 = some (r1, r2)) ∧ Aside0 (kq ≤ k) ∧ Aside0 (Below w.heap.size w wc))
 case first =>
  have H := HC4.out
  clear HC4
  replace H := Option.bind_eq_some_iff.mp H
  obtain ⟨t131, A50, H⟩ := H
  replace H : (if t131 = true then (if a1 < 0 then (pack_Put.j0 k l0 a1 a2 true) else (if 0 ≤ (wrap64 (8 * a2)) then (pack_Put.j0 k l0 a1 a2 (decide ((shr .i64 a1 (wrap64 (8 * a2))) > 0))) else (none))) else (pack_Put.j0 k l0 a1 a2 true)) = some (r1, r2) := H
  have A5 := Aside0.mk A50
  clear A50
  by_cases c6 : t131 = true
  ·subst c6
   have H1 : (if a1 < 0 then (pack_Put.j0 k l0 a1 a2 true) else (if 0 ≤ (wrap64 (8 * a2)) then (pack_Put.j0 k l0 a1 a2 (decide ((shr .i64 a1 (wrap64 (8 * a2))) > 0))) else (none))) = some (r1, r2) := by rw [if_pos rfl] at H; exact H
   clear H
   have H := H1
   clear H1
   by_cases c7 : a1 < 0
   ·rw [if_pos c7] at H
    have c7b0 : decide (a1 < 0) = true := decide_eq_true c7
    clear c7
    (first | rw [c7b0] | (simp only [i64_w, i32_w]; rw [c7b0]) | skip)
    have H' := Aside0.mk H
    clear H
    go_wp2_with (first | ((with_reducible refine gate_callee (f := 56) rfl ?_); refine goesL_ (some 11) rfl rfl Try.func56 (by kernel_rfl) rfl #[.int .i64 a2] rfl (by (try simp only [List.map_toArray, List.map_cons, List.map_nil]); first | done | rfl | (simp only [List.length_drop, List.length_take]; rfl)) ?_; (with_reducible refine (pack_sized.calls a2 true _ A5.out).mono ?_); rintro e w' ⟨rfl, ⟨nd, rfl⟩⟩; refine ⟨_, rfl, ?_⟩))
    go_meet
    case rel => exact ⟨_, (true), (by first | rfl | (simp; done) | (simp [*]; done)), H', ⟨by first | omega | exact Nat.le_refl _⟩, ⟨by repeat (first | (with_reducible first | exact HB.out | apply below_alloc | apply pw_below_drewN | apply below_drew1) | exact HB.out)⟩⟩
   ·rw [if_neg c7] at H
    have c7b0 : decide (a1 < 0) = false := decide_eq_false c7
    clear c7
    (first | rw [c7b0] | (simp only [i64_w, i32_w]; rw [c7b0]) | skip)
    obtain ⟨ji8, hji8⟩ : ∃ j_ : Int, (wrap64 (8 * a2)) = j_ := ⟨_, rfl⟩
    replace H : (if 0 ≤ (ji8) then (pack_Put.j0 k l0 a1 a2 (decide ((shr .i64 a1 (ji8)) > 0))) else (none)) = some (r1, r2) := by first | (rw [hji8] at H; exact H) | (simp only [hji8] at H ⊢; exact H)
    (try rw [hji8] at A5)
    have hji8w : (IntKind.i64.wrap (8 * a2)) = ji8 := (i64_w _).trans hji8
    by_cases c9 : 0 ≤ (ji8)
    ·rw [if_pos c9] at H
     have c9b0 := eq_true c9
     have c9b1 : decide (0 ≤ (ji8)) = true := decide_eq_true c9
     clear c9
     obtain ⟨ji10, hji10⟩ : ∃ j_ : Int, (shr .i64 a1 (ji8)) = j_ := ⟨_, rfl⟩
     replace H : (pack_Put.j0 k l0 a1 a2 (decide ((ji10) > 0))) = some (r1, r2) := by first | (rw [hji10] at H; exact H) | (simp only [hji10] at H ⊢; exact H)
     (try rw [hji10] at A5)
     have hji10_ : (a1 / 2 ^ min (ji8).toNat 64) = ji10 := hji10
     have hji10z : (ji8) ≤ 64 → (a1 / 2 ^ (ji8).toNat) = ji10 := shr_small hji10
     have H' := Aside0.mk H
     clear H
     go_wp2_with (first | ((with_reducible refine gate_callee (f := 56) rfl ?_); refine goesL_ (some 11) rfl rfl Try.func56 (by kernel_rfl) rfl #[.int .i64 a2] rfl (by (try simp only [List.map_toArray, List.map_cons, List.map_nil]); first | done | rfl | (simp only [List.length_drop, List.length_take]; rfl)) ?_; (with_reducible refine (pack_sized.calls a2 true _ A5.out).mono ?_); rintro e w' ⟨rfl, ⟨nd, rfl⟩⟩; refine ⟨_, rfl, ?_⟩))
     go_meet
     case rel => exact ⟨_, (decide ((ji10) > 0)), (by first | rfl | (simp; done) | (simp only [← hji10] <;> (first | rfl | simp)) | (simp [*]; done)), H', ⟨by first | omega | exact Nat.le_refl _⟩, ⟨by repeat (first | (with_reducible first | exact HB.out | apply below_alloc | apply pw_below_drewN | apply below_drew1) | exact HB.out)⟩⟩
    ·rw [if_neg c9] at H
     exact absurd H (by simp)
  ·replace c6 := Bool.eq_false_iff.mpr c6
   subst c6
   have H1 : (pack_Put.j0 k l0 a1 a2 true) = some (r1, r2) := by rw [if_neg (show ¬ (false = true) by decide)] at H; exact H
   clear H
   have H := H1
   clear H1
   have H' := Aside0.mk H
   clear H
   go_wp2_with (first | ((with_reducible refine gate_callee (f := 56) rfl ?_); refine goesL_ (some 11) rfl rfl Try.func56 (by kernel_rfl) rfl #[.int .i64 a2] rfl (by (try simp only [List.map_toArray, List.map_cons, List.map_nil]); first | done | rfl | (simp only [List.length_drop, List.length_take]; rfl)) ?_; (with_reducible refine (pack_sized.calls a2 false _ A5.out).mono ?_); rintro e w' ⟨rfl, ⟨nd, rfl⟩⟩; refine ⟨_, rfl, ?_⟩))
   go_meet
   case rel => exact ⟨_, (true), (by first | rfl | (simp; done) | (simp [*]; done)), H', ⟨by first | omega | exact Nat.le_refl _⟩, ⟨by repeat (first | (with_reducible first | exact HB.out | apply below_alloc | apply pw_below_drewN | apply below_drew1) | exact HB.out)⟩⟩
 case rest =>
  clear HC4
  try clear p2
  try clear c4
  try clear c5
  try clear c6
  try clear p6
  try clear c7
  try clear c7b0
  try clear c9
  try clear c9b0
  try clear c9b1
  obtain ⟨kq, x23_3, rfl, HA, HJ3, HB⟩ := hcut
  cases kq with
  | zero => exact absurd HA.out (by simp [pack_Put.j0])
  | succ kj3 =>
   have H := HA.out
   clear HA
   simp only [pack_Put.j0] at H
   by_cases c11 : x23_3 = true
   ·subst c11
    have H1 : (some (([] : List Int), 60)) = some (r1, r2) := by rw [if_pos rfl] at H; exact H
    clear H
    have H := H1
    clear H1
    simp only [Option.some.injEq, Prod.mk.injEq] at H
    obtain ⟨rfl, rfl⟩ := H
    go_wp2
    go_ret2
    exact ⟨_, by first | rfl | (simp [errW_none, errW_some] <;> rfl) | (simp [*, errW_none, errW_some] <;> rfl), by first | exact Kd.R_nil _ _ _ _ _ | exact Kd.N_nil _ _ _ _ _ | exact Kd.V_nil _ _ _ _ _ | exact Kd.Q_nil _ _ _ _ _ | exact Kd.S_nil _ _ _ _ _, by repeat (first | (with_reducible first | exact HB.out | apply below_alloc | apply pw_below_drewN | apply below_drew1) | exact HB.out)⟩
   ·replace c11 := Bool.eq_false_iff.mpr c11
    subst c11
    have H1 : ((bytes_Clone.f l0).bind fun t132 => (pack_Put.l0 kj3 a1 a2 t132 a2 0)) = some (r1, r2) := by rw [if_neg (show ¬ (false = true) by decide)] at H; exact H
    clear H
    have H := H1
    clear H1
    replace H := Option.bind_eq_some_iff.mp H
    obtain ⟨t132, A120, H⟩ := H
    replace H : (pack_Put.l0 kj3 a1 a2 t132 a2 0) = some (r1, r2) := H
    have A12 := Aside0.mk A120
    clear A120
    have H' := Aside0.mk H
    clear H
    go_wp2_with (first | ((with_reducible refine gate_callee (f := 57) rfl ?_); refine goesL_ (some 25) rfl rfl Try.func57 (by kernel_rfl) rfl #[.slice A0 l0.length c0] rfl (by (try simp only [List.map_toArray, List.map_cons, List.map_nil]); first | done | rfl | (simp only [List.length_drop, List.length_take]; rfl)) ?_; (with_reducible refine (bytes_Clone.calls _ _ l0 t132 _ ?side1 ?side2 A12.out).mono ?_); (case side1 => repeat (first | exact (Kd.C_below HR0.out HB.out) | (with_reducible apply Kd.C_alloc) | (with_reducible apply Kd.C_drewN) | (with_reducible apply Kd.C_drew))); (case side2 => exact HC0.out); rintro e w13 ⟨v133, rfl, ho0, hb⟩; refine ⟨_, rfl, ?_⟩; have n0_ := Aside0.mk (Kd.R_lower ho0 (below_size (by repeat (first | (with_reducible first | exact HB.out | apply below_alloc | apply pw_below_drewN | apply below_drew1) | exact HB.out)))); have n1_ := Aside0.mk (below_step (by repeat (first | (with_reducible first | exact HB.out | apply below_alloc | apply pw_below_drewN | apply below_drew1) | exact HB.out)) hb); clear HB; have HO134 := n0_; have HB := n1_; clear n0_ n1_; (try clear hb); (try clear hb2); (try clear hk); (try clear hi); (try clear ho0)))
    go_loopg [8, 27] kj3 (fun kq v8 v27 w' => ∃ (x8_2 : List Int) (x27_2 : Int), v27 = .int .i64 x27_2 ∧ Aside0 (pack_Put.l0 kq a1 a2 x8_2 a2 x27_2 = some (r1, r2)) ∧ Aside0 (kq ≤ kj3) ∧ Aside0 (Kd.R (Kd.int .u8) 5 w' w.heap.size (fun _ => True) v8 x8_2) ∧ Aside0 (Below w.heap.size w w'))
    case atStart => exact ⟨(t132), (0), (by first | rfl | (simp; done) | (simp [*]; done)), H', ⟨Nat.le_refl _⟩, ⟨by (with_reducible repeat (first | apply Kd.R_alloc | apply Kd.R_drewN | apply Kd.R_drew)); exact HO134.out⟩, ⟨by repeat (first | (with_reducible first | exact HB.out | apply below_alloc | apply pw_below_drewN | apply below_drew1) | exact HB.out)⟩⟩
    case round =>
     clear H'
     try clear c1
     try clear p2
     try clear c4
     try clear c5
     try clear c6
     try clear p6
     try clear c7
     try clear c7b0
     try clear c9
     try clear c9b0
     try clear c9b1
     try clear c11
     try clear p2
     try clear p6
     obtain ⟨x8_2, x27_2, rfl, HA, HK2, HO_8, HB⟩ := hrel
     cases gk with
     | zero => exact absurd HA.out (by simp [pack_Put.l0])
     | succ k2 =>
      have H := HA.out
      clear HA
      simp only [pack_Put.l0] at H
      by_cases c14 : x27_2 < a2
      ·rw [if_pos c14] at H
       have c14b0 : decide (x27_2 < a2) = true := decide_eq_true c14
       clear c14
       obtain ⟨ji15, hji15⟩ : ∃ j_ : Int, (wrap64 (8 * (wrap64 ((wrap64 (a2 - 1)) - x27_2)))) = j_ := ⟨_, rfl⟩
       replace H : (if 0 ≤ (ji15) then (if x8_2.length < 140737488355328 then (pack_Put.l0 k2 a1 a2 (x8_2 ++ [(shr .i64 a1 (ji15)) % 256]) a2 (wrap64 (x27_2 + 1))) else (none)) else (none)) = some (r1, r2) := by first | (rw [hji15] at H; exact H) | (simp only [hji15] at H ⊢; exact H)
       have hji15w : (IntKind.i64.wrap (8 * (wrap64 ((wrap64 (a2 - 1)) - x27_2)))) = ji15 := (i64_w _).trans hji15
       by_cases c16 : 0 ≤ (ji15)
       ·rw [if_pos c16] at H
        have c16b0 := eq_true c16
        have c16b1 : decide (0 ≤ (ji15)) = true := decide_eq_true c16
        clear c16
        obtain ⟨ji17, hji17⟩ : ∃ j_ : Int, (shr .i64 a1 (ji15)) = j_ := ⟨_, rfl⟩
        replace H : (if x8_2.length < 140737488355328 then (pack_Put.l0 k2 a1 a2 (x8_2 ++ [(ji17) % 256]) a2 (wrap64 (x27_2 + 1))) else (none)) = some (r1, r2) := by first | (rw [hji17] at H; exact H) | (simp only [hji17] at H ⊢; exact H)
        have hji17_ : (a1 / 2 ^ min (ji15).toNat 64) = ji17 := hji17
        have hji17z : (ji15) ≤ 64 → (a1 / 2 ^ (ji15).toNat) = ji17 := shr_small hji17
        by_cases c18 : x8_2.length < 140737488355328
        ·rw [if_pos c18] at H
         have LMc18 := Aside0.mk c18
         clear c18
         obtain ⟨y135, hy135⟩ : ∃ y_ : List Int, y_ = (x8_2 ++ [(ji17) % 256]) := ⟨_, rfl⟩
         replace H : (pack_Put.l0 k2 a1 a2 y135 a2 (wrap64 (x27_2 + 1))) = some (r1, r2) := by first | (rw [hy135]; with_reducible exact H) | (have H2_ := (Option.bind_some _ _).symm.trans H; rw [hy135]; with_reducible exact H2_) | (have H2_ := (Option.bind_some _ _).symm.trans H; with_reducible exact H2_) | with_reducible exact H | (rw [hy135]; exact H) | exact H
         have Ny135 := Aside0.mk hy135
         clear hy135
         have H' := Aside0.mk H
         clear H
         go_wp2_with (first | ((with_reducible refine gate_builtin (b := .append) (xs := #[.tmp 30, .tmp 39]) rfl ?_); at_builtin; refine Kd.R_append (Kd.int .u8) (w0 := w) w.heap.size rfl (.tmp 30) (.tmp 39) 29 5 (.int .u8 0) 1 rfl Try.underlying29 info5 rfl (by decide) (by omega) u8 x8_2 ((ji17) % 256) [.int .u8 ((ji17) % 256)] (fun _ => True) (fun _ => False) rfl rfl ?aP (fun _ hk => hk.elim) ?aF ?aO ?aB ?aS ?aL ?_; (case aP => exact rfl); (case aB => exact (by repeat (first | (with_reducible first | exact HB.out | apply below_alloc | apply pw_below_drewN | apply below_drew1) | exact HB.out))); (case aF => exact (fun _ _ => trivial)); (case aO => exact (by (with_reducible repeat (first | apply Kd.R_alloc | apply Kd.R_drewN | apply Kd.R_drew)); exact HO_8.out)); (case aS => exact (below_size (by repeat (first | (with_reducible first | exact HB.out | apply below_alloc | apply pw_below_drewN | apply below_drew1) | exact HB.out)))); (case aL => have := LMc18.out; omega); intro v136 w19 ho hb hg hat; rw [← Ny135.out] at ho; have n0_ := Aside0.mk (hb); have n1_ := Aside0.mk (ho); clear HB; clear HO_8; have HB := n0_; have HO137 := n1_; clear n0_ n1_; clear ho hb hg hat))
         go_roundg k2
         case measure => have := HJ3.out; have := HK2.out; omega
         case rel => exact ⟨(y135), (wrap64 (x27_2 + 1)), (by first | rfl | (simp; done) | (simp [*]; done)), H', ⟨by have := HJ3.out; have := HK2.out; omega⟩, ⟨by (with_reducible repeat (first | apply Kd.R_alloc | apply Kd.R_drewN | apply Kd.R_drew)); exact HO137.out⟩, ⟨by repeat (first | (with_reducible first | exact HB.out | apply below_alloc | apply pw_below_drewN | apply below_drew1) | exact HB.out)⟩⟩
        ·rw [if_neg c18] at H
         exact absurd H (by simp)
       ·rw [if_neg c16] at H
        exact absurd H (by simp)
      ·rw [if_neg c14] at H
       have c14b0 : decide (x27_2 < a2) = false := decide_eq_false c14
       clear c14
       simp only [Option.some.injEq, Prod.mk.injEq] at H
       obtain ⟨rfl, rfl⟩ := H
       go_wp2
       go_ret2
       exact ⟨_, by first | rfl | (simp [errW_none, errW_some] <;> rfl) | (simp [*, errW_none, errW_some] <;> rfl), by (with_reducible repeat (first | apply Kd.R_alloc | apply Kd.R_drewN | apply Kd.R_drew)); exact HO_8.out, by repeat (first | (with_reducible first | exact HB.out | apply below_alloc | apply pw_below_drewN | apply below_drew1) | exact HB.out)⟩

/-! ### tfm_out_put: function 20 -/
-- by hand
/-- The state of bytes that grow: block g holds a row that lies at base or beyond. -/
def tfm_out_put.Holds (w : World) (base g : Nat) (xs : List Int) : Prop :=
 ∃ v, w.heap[g]? = some (.cells #[v] 45 (0, 0)) ∧ base ≤ g ∧ Kd.R (Kd.int .u8) 5 w base (fun _ => True) v xs
theorem tfm_out_put.holds_below {w w' : World} {base g : Nat} {xs : List Int} (h : tfm_out_put.Holds w base g xs) (hb : Below w.heap.size w w') : tfm_out_put.Holds w' base g xs := by
 obtain ⟨v, h1, h2, h3⟩ := h
 exact ⟨v, blk_below h1 hb, h2, Kd.R_below h3 hb⟩
/-- All that lies stays, block g and bytes apart. -/
def tfm_out_put.Stays (g : Nat) (w w' : World) : Prop := ∀ k o, w.heap[k]? = some o → k ≠ g → (∀ cells, o ≠ .cells cells 5 (0, 0)) → w'.heap[k]? = some o
theorem tfm_out_put.stays_t {g : Nat} {a b c : World} (h : tfm_out_put.Stays g a b) (k : tfm_out_put.Stays g b c) : tfm_out_put.Stays g a c := fun i o hi hn hc => k i o (h i o hi hn hc) hn hc
theorem tfm_out_put.stays_below {g : Nat} {w w' : World} (hb : Below w.heap.size w w') : tfm_out_put.Stays g w w' := fun k o hk _ _ => (hb.block k (Array.getElem?_eq_some_iff.1 hk).1).trans hk
theorem tfm_out_put.stays_set {g : Nat} {w : World} (v : Value) : tfm_out_put.Stays g w (w.setCell ⟨g, 0, none⟩ v) := fun k o hk hn _ => (Below.heap_setCell w ⟨g, 0, none⟩ v k hn).trans hk
theorem tfm_out_put.holds_other {w w2 : World} {base g ga t : Nat} {xs : List Int} {cs : Array Value} (h : tfm_out_put.Holds w base g xs) (hg : w.heap[ga]? = some (.cells cs t (0, 0))) (h1 : t ≠ 45) (h2 : 5 ≠ t) (hk : ∀ k, k ≠ ga → w2.heap[k]? = w.heap[k]?) : tfm_out_put.Holds w2 base g xs := by
 obtain ⟨v, e1, e2, e3⟩ := h
 refine ⟨v, (hk g (fun e => ?_)).trans e1, e2, Kd.R_mono (Kd.R_step (Kd.R_tight rfl e3) (fun j hj _ => hk j (fun e4 => Kd.R_ne e3 hg h2 (by rw [← e4]; exact hj)))) (fun _ _ => trivial)⟩
 subst e
 rw [hg] at e1
 simp only [Option.some.injEq, Obj.cells.injEq] at e1
 exact h1 e1.2.1
theorem tfm_out_put.ne_of {w : World} {a b t1 t2 : Nat} {c1 c2 : Array Value} (h1 : w.heap[a]? = some (.cells c1 t1 (0, 0))) (h2 : w.heap[b]? = some (.cells c2 t2 (0, 0))) (h : t1 ≠ t2) : a ≠ b := by
 intro e
 subst e
 rw [h1] at h2
 simp only [Option.some.injEq, Obj.cells.injEq] at h2
 exact h h2.2.1
theorem tfm_out_put.R_set {d : Kd Int} {e base g t : Nat} {ok : Nat → Prop} {v u : Value} {xs : List Int} {w : World} {cs : Array Value} (h : Kd.R d e w base ok v xs) (hE : d.E = []) (hg : w.heap[g]? = some (.cells cs t (0, 0))) (ht : e ≠ t) : Kd.R d e (w.setCell ⟨g, 0, none⟩ u) base ok v xs :=
 Kd.R_mono (Kd.R_step (Kd.R_tight hE h) (fun j hj _ => Below.heap_setCell w ⟨g, 0, none⟩ u j (fun e2 => Kd.R_ne h hg ht (by have e3 : j = g := e2; rw [← e3]; exact hj)))) (fun j hj => h.1 j hj.symm)
set_option maxHeartbeats 4000000 in
theorem tfm_out_put.calls (k : Nat) (n z : Int) (xs r1 : List Int) (r2 : Int) (g : Nat) (w0 w : World) (hB : Below w0.heap.size w0 w) (h : tfm_out_put.Holds w w0.heap.size g xs) (hp : pack_Put.f k xs n z = some (r1, r2)) :
  Calls Try.prog 20 #[.pointer (some ⟨g, 0, none⟩), .int .i64 n, .int .i64 z] w fun e w' => e = .returned (.tuple #[]) ∧ tfm_out_put.Holds w' w0.heap.size g r1 ∧ Below w0.heap.size w0 w' ∧ tfm_out_put.Stays g w w' := by
 obtain ⟨v, h1, h2, h3⟩ := h
 obtain ⟨A, c, e⟩ := Kd.R_slice h3
 subst e
 have hu := Try.underlying45
 have H1 := Aside0.mk h1
 have H2 := Aside0.mk h2
 have HB := Aside0.mk hB
 have HR := Aside0.mk (Kd.R_reads' h3)
 have HH := Aside0.mk hp
 have hx := blk_cell h1 0
 clear h1 h2 h3 hp hB
 go_enter Try.func20, Try.ntmps20
 go_wp2_with (first | (go_at_call 44; (with_reducible refine (pack_Put.calls k A c xs n z r1 r2 _ HR.out.2.2 HR.out.2.1 HH.out).mono ?_); rintro e w2 ⟨v2, rfl, hr, hb⟩; obtain ⟨A2, c2, e2⟩ := Kd.R_slice hr; subst e2; have P2 := blk_below H1.out hb; have HP2 := Aside0.mk P2; have hq := blk_cell P2 0; have hfq := blk_frozen P2; have HR2 := Aside0.mk (Kd.R_lower hr HB.out.size); have HB2 := Aside0.mk (HB.out.trans (hb.mono HB.out.size)); have HST := Aside0.mk (tfm_out_put.stays_below (g := g) hb); clear hx P2 hr hb))
 go_end0
 refine ⟨rfl, ⟨.slice A2 r1.length c2, ?_, H2.out, tfm_out_put.R_set HR2.out rfl HP2.out (by decide)⟩, HB2.out.setCell (p := ⟨g, 0, none⟩) H2.out _, tfm_out_put.stays_t HST.out (tfm_out_put.stays_set _)⟩
 have := blk_put (cs' := #[.slice A2 r1.length c2]) HP2.out 0 (.slice A2 r1.length c2) rfl
 exact this

/-! ### pack_ways_1: function 63 -/
def pack_ways_1.f (a0 : Int) : Option (Int) := some ((wrap32 (a0)) % 4294967296)
set_option maxHeartbeats 8000000 in
set_option maxRecDepth 100000 in
theorem pack_ways_1.calls (a0 : Int) (r : Int) (w : World) (h : pack_ways_1.f a0 = some r) :
  Calls Try.prog 63 #[.int .i64 a0] w fun e w' => e = .returned (.int .i64 r) ∧ Drawn0 w w' := by
 have H : (some ((wrap32 (a0)) % 4294967296)) = some r := h
 clear h
 obtain rfl := Option.some.inj H
 go_enter Try.func63, Try.ntmps63
 go_wp2
 go_ret
 exact ⟨by first | rfl | (simp; done) | (simp [*]; done), by repeat (first | exact Drawn0.refl _ | apply Drawn0.step)⟩

/-! ### pack_ways_2: function 64 -/
def pack_ways_2.f (a0 : Int) : Option (Int) := some (wrap64 (wrap32 ((a0) % 4294967296)))
set_option maxHeartbeats 8000000 in
set_option maxRecDepth 100000 in
theorem pack_ways_2.calls (a0 : Int) (r : Int) (w : World) (h : pack_ways_2.f a0 = some r) :
  Calls Try.prog 64 #[.int .i64 a0] w fun e w' => e = .returned (.int .i64 r) ∧ Drawn0 w w' := by
 have H : (some (wrap64 (wrap32 ((a0) % 4294967296)))) = some r := h
 clear h
 obtain rfl := Option.some.inj H
 go_enter Try.func64, Try.ntmps64
 go_wp2
 go_ret
 exact ⟨by first | rfl | (simp; done) | (simp [*]; done), by repeat (first | exact Drawn0.refl _ | apply Drawn0.step)⟩

/-! ### pack_ways: function 58 -/
-- by hand
theorem pack_ways.c1 (a : Int) (w : World) : Calls Try.prog 63 #[.int .i64 a] w fun e w' => e = .returned (.int .i64 (wrap32 a % 4294967296)) ∧ w = w' := by
 go_enter Try.func63, Try.ntmps63
 go_wp2
 go_ret
 exact ⟨rfl, rfl⟩
theorem pack_ways.c2 (a : Int) (w : World) : Calls Try.prog 64 #[.int .i64 a] w fun e w' => e = .returned (.int .i64 (wrap64 (wrap32 (a % 4294967296)))) ∧ w = w' := by
 go_enter Try.func64, Try.ntmps64
 go_wp2
 go_ret
 exact ⟨rfl, rfl⟩
theorem pack_ways.calls (w : World) : Calls Try.prog 58 #[] w fun e w' => e = .returned (.tuple #[.func (.func 63) #[] #[], .func (.func 64) #[] #[]]) ∧ w = w' := by
 go_enter Try.func58, Try.ntmps58
 go_wp2
 go_ret2
 exact ⟨rfl, rfl⟩

/-! ### pack_PutFix: function 45 -/
-- by hand
def pack_PutFix.f (k : Nat) (l0 : List Int) (a1 : Int) : Option (List Int × Int) := if a1 < -2147483648 then some ([], 60) else if a1 ≥ 2147483648 then some ([], 60) else pack_Put.f k l0 (wrap32 a1 % 4294967296) 4
theorem pack_PutFix.mono : ∀ a0 a1 k, LeO (pack_PutFix.f k a0 a1) (pack_PutFix.f (k + 1) a0 a1) := by
 intro a0 a1 k
 unfold pack_PutFix.f
 repeat' first
  | (with_reducible exact pack_Put.mono _ _ _ _)
  | (with_reducible exact LeO.refl _)
  | (with_reducible refine LeO.ite ?_ ?_)
set_option maxHeartbeats 4000000 in
theorem pack_PutFix.calls (k : Nat) (A0 : Option Addr) (c0 : Nat) (l0 : List Int) (a1 : Int) (r1 : List Int) (r2 : Int) (w : World) (hr0 : Kd.C (Kd.int .u8) w A0 l0.length l0) (hc0 : l0.length ≤ c0) (h : pack_PutFix.f k l0 a1 = some (r1, r2)) :
  Calls Try.prog 45 #[.slice A0 l0.length c0, .int .i64 a1] w fun e w' => ∃ v0_ : Value, e = .returned (.tuple #[v0_, .int .i64 r2]) ∧ Kd.R (Kd.int .u8) 5 w' w.heap.size (fun _ => True) v0_ r1 ∧ Below w.heap.size w w' := by
 have HR0 := Aside0.mk hr0
 have HC0 := Aside0.mk hc0
 clear hr0 hc0
 unfold pack_PutFix.f at h
 by_cases c1 : a1 < -2147483648
 ·rw [if_pos c1] at h
  simp only [Option.some.injEq, Prod.mk.injEq] at h
  obtain ⟨rfl, rfl⟩ := h
  go_enter Try.func45, Try.ntmps45
  go_wp2
  go_ret2
  exact ⟨_, rfl, Kd.R_nil _ _ _ _ _, Below.refl _ _⟩
 ·rw [if_neg c1] at h
  by_cases c2 : a1 ≥ 2147483648
  ·rw [if_pos c2] at h
   simp only [Option.some.injEq, Prod.mk.injEq] at h
   obtain ⟨rfl, rfl⟩ := h
   go_enter Try.func45, Try.ntmps45
   go_wp2
   go_ret2
   exact ⟨_, rfl, Kd.R_nil _ _ _ _ _, Below.refl _ _⟩
  ·rw [if_neg c2] at h
   have H := Aside0.mk h
   clear h
   go_enter Try.func45, Try.ntmps45
   go_wp2_with (first | (go_at_call 58; (with_reducible refine (pack_ways.calls _).mono ?_); rintro e w' ⟨rfl, rfl⟩) | (go_at_call 63; (with_reducible refine (pack_ways.c1 _ _).mono ?_); rintro e w' ⟨rfl, rfl⟩) | (go_at_call 44; (with_reducible refine (pack_Put.calls k A0 c0 l0 _ 4 r1 r2 _ HR0.out HC0.out H.out).mono ?_); rintro e w' ⟨v0, rfl, hr, hb⟩))
   go_ret2
   exact ⟨_, rfl, hr, hb⟩

/-! ### tfm_out_fixes: function 21 -/
-- by hand
def tfm_out_fixes.f (k : Nat) : List Int → List Int → Option (List Int)
 | [], xs => some xs
 | n :: l, xs => (pack_PutFix.f k xs n).bind fun r => tfm_out_fixes.f k l r.1
theorem tfm_out_fixes.mono (k : Nat) (l : List Int) : ∀ xs, LeO (tfm_out_fixes.f k l xs) (tfm_out_fixes.f (k + 1) l xs) := by
 induction l with
 | nil => intro xs; exact LeO.refl _
 | cons p l ih => intro xs; exact LeO.bind (pack_PutFix.mono _ _ _) (fun ys => ih _)
set_option maxHeartbeats 4000000 in
theorem tfm_out_fixes.calls (k : Nat) (A1 : Option Addr) (c1 : Nat) (l1 : List Int) (xs r : List Int) (g : Nat) (w0 w : World) (hB : Below w0.heap.size w0 w) (h : tfm_out_put.Holds w w0.heap.size g xs) (hr1 : Kd.C (Kd.int .i64) w0 A1 l1.length l1) (hp : tfm_out_fixes.f k l1 xs = some r) :
  Calls Try.prog 21 #[.pointer (some ⟨g, 0, none⟩), .slice A1 l1.length c1] w fun e w' => e = .returned (.tuple #[]) ∧ tfm_out_put.Holds w' w0.heap.size g r ∧ Below w0.heap.size w0 w' ∧ tfm_out_put.Stays g w w' := by
 have hm := hr1.2.1
 have hu := Try.underlying45
 have H0 := Aside0.mk h
 have HP := Aside0.mk hp
 have HB := Aside0.mk hB
 have HR := Aside0.mk hr1
 clear hB h hp hr1
 go_enter Try.func21, Try.ntmps21
 go_wp2
 go_loopw [5, 8] (fun _ v8 wr => ∃ (i : Nat) (ys : List Int), i ≤ l1.length ∧ v8 = .int .i64 i ∧ Aside0 (tfm_out_fixes.f k (l1.drop i) ys = some r) ∧ Aside0 (tfm_out_put.Holds wr w0.heap.size g ys) ∧ Aside0 (Below w0.heap.size w0 wr) ∧ Aside0 (tfm_out_put.Stays g w wr)) (fun _ v8 _ => l1.length - (intOf v8).toNat)
 case atStart => exact ⟨0, xs, Nat.zero_le _, rfl, HP, H0, HB, ⟨tfm_out_put.stays_below (Below.refl _ _)⟩⟩
 case round =>
  clear H0 HP HB
  obtain ⟨i, ys, hii, rfl, HP, H0, HB, HS⟩ := hrel
  by_cases hlt : i < l1.length
  ·have hltz : (i : Int) < (l1.length : Int) := by omega
   obtain ⟨ad, cc, rfl, hcl, hK, hcc⟩ := C_elem (Kd.C_below HR.out HB.out) i hlt
   obtain rfl : cc = [.int .i64 l1[i]] := hK
   have hcell : wr.cell? (ad.add i) = some (.int .i64 l1[i]) := by simpa [Kd.int, Kd.scalar] using hcc 0 _ rfl
   have hq := HP.out
   rw [List.drop_eq_getElem_cons hlt, tfm_out_fixes.f] at hq
   obtain ⟨⟨r1, r2⟩, hz, hr⟩ := Option.bind_eq_some_iff.mp hq
   obtain ⟨v, h1, h2, h3⟩ := H0.out
   obtain ⟨A, c, e⟩ := Kd.R_slice h3
   subst e
   have H1 := Aside0.mk h1
   have H2 := Aside0.mk h2
   have HRR := Aside0.mk (Kd.R_reads' h3)
   have HE := Aside0.mk hz
   have HR2 := Aside0.mk hr
   have hx := blk_cell h1 0
   clear h1 h2 h3 hq hz hr HP hcl hcc H0
   go_wp2_with (first | (go_at_call 45; (with_reducible refine (pack_PutFix.calls k A c ys l1[i] r1 r2 _ HRR.out.2.2 HRR.out.2.1 HE.out).mono ?_); rintro e w2 ⟨v2, rfl, hr, hb⟩; obtain ⟨A2, c2, e2⟩ := Kd.R_slice hr; subst e2; have P2 := blk_below H1.out hb; have HP2 := Aside0.mk P2; have hq := blk_cell P2 0; have hfq := blk_frozen P2; have HR3 := Aside0.mk (Kd.R_lower hr HB.out.size); have HB2 := Aside0.mk (HB.out.trans (hb.mono HB.out.size)); have HST := Aside0.mk (tfm_out_put.stays_below (g := g) hb); clear hx P2 hr hb))
   go_roundw
   case rel =>
    refine ⟨i + 1, r1, by omega, by go_num, HR2, ⟨⟨.slice A2 r1.length c2, ?_, H2.out, tfm_out_put.R_set HR3.out rfl HP2.out (by decide)⟩⟩, ⟨HB2.out.setCell (p := ⟨g, 0, none⟩) H2.out _⟩, ⟨tfm_out_put.stays_t HS.out (tfm_out_put.stays_t HST.out (tfm_out_put.stays_set _))⟩⟩
    have := blk_put (cs' := #[.slice A2 r1.length c2]) HP2.out 0 (.slice A2 r1.length c2) rfl
    exact this
   case measure => simp [intOf]; omega
  ·obtain rfl : i = l1.length := by omega
   have hge : decide ((l1.length : Int) < (l1.length : Int)) = false := decide_eq_false (by omega)
   have hq := HP.out
   rw [List.drop_length, tfm_out_fixes.f] at hq
   obtain rfl := Option.some.inj hq
   clear hq HP
   go_wp2
   go_end0
   exact ⟨rfl, H0.out, HB.out, HS.out⟩

end Go.Proofs.Ytpijgpjoobffoaa.G
