/- Contracts of the functions of this seat: what each call computes, as a plain Lean function. Made by this session's own generator. -/
import Derived.Test.YtpijgpjoobffoaaGx0
namespace Go.Proofs.Ytpijgpjoobffoaa.G
open Go.RowKit Go.Proofs.YtpijgpjoobffoaaMy Go.Proofs.YtpijgpjoobffoaaW.PrintWords Go.Proofs.YtpijgpjoobffoaaW.PrintLast Go.Proofs.YtpijgpjoobffoaaW.PrintMore
attribute [local go_sem] max2_int min2_int max_two min_two max_three min_three max_four min_four   -- for this text's walks alone
set_option linter.unusedVariables false
set_option linter.unusedSimpArgs false

/-! ### tfm_of: function 25 -/
def tfm_of.f (a0 : Int) (a1 : Int) : Option (Bool) := if a0 ≥ 0 then (some (decide (a0 < a1))) else (some false)
set_option maxHeartbeats 8000000 in
set_option maxRecDepth 100000 in
theorem tfm_of.calls (a0 : Int) (a1 : Int) (r : Bool) (w : World) (h : tfm_of.f a0 a1 = some r) :
  Calls Try.prog 25 #[.int .i64 a0, .int .i64 a1] w fun e w' => e = .returned (.bool r) ∧ Drawn0 w w' := by
 have H : (if a0 ≥ 0 then (some (decide (a0 < a1))) else (some false)) = some r := h
 clear h
 by_cases c3 : a0 ≥ 0
 ·rw [if_pos c3] at H
  have c3b0 : decide (0 ≤ a0) = true := decide_eq_true c3
  clear c3
  obtain rfl := Option.some.inj H
  go_enter Try.func25, Try.ntmps25
  go_wp2
  go_ret
  exact ⟨by first | rfl | (simp; done) | (simp [*]; done), by repeat (first | exact Drawn0.refl _ | apply Drawn0.step)⟩
 ·rw [if_neg c3] at H
  have c3b0 : decide (0 ≤ a0) = false := decide_eq_false c3
  clear c3
  obtain rfl := Option.some.inj H
  go_enter Try.func25, Try.ntmps25
  go_wp2
  go_ret
  exact ⟨by first | rfl | (simp; done) | (simp [*]; done), by repeat (first | exact Drawn0.refl _ | apply Drawn0.step)⟩

/-! ### tfm_fix: function 48 -/
def tfm_fix.f (a0 : Int) : Option (Bool) := if a0 ≥ (-16777216) then (some (decide (a0 < 16777216))) else (some false)
set_option maxHeartbeats 8000000 in
set_option maxRecDepth 100000 in
theorem tfm_fix.calls (a0 : Int) (r : Bool) (w : World) (h : tfm_fix.f a0 = some r) :
  Calls Try.prog 48 #[.int .i64 a0] w fun e w' => e = .returned (.bool r) ∧ Drawn0 w w' := by
 have H : (if a0 ≥ (-16777216) then (some (decide (a0 < 16777216))) else (some false)) = some r := h
 clear h
 by_cases c2 : a0 ≥ (-16777216)
 ·rw [if_pos c2] at H
  have c2b0 : decide ((-16777216) ≤ a0) = true := decide_eq_true c2
  clear c2
  obtain rfl := Option.some.inj H
  go_enter Try.func48, Try.ntmps48
  go_wp2
  go_ret
  exact ⟨by first | rfl | (simp; done) | (simp [*]; done), by repeat (first | exact Drawn0.refl _ | apply Drawn0.step)⟩
 ·rw [if_neg c2] at H
  have c2b0 : decide ((-16777216) ≤ a0) = false := decide_eq_false c2
  clear c2
  obtain rfl := Option.some.inj H
  go_enter Try.func48, Try.ntmps48
  go_wp2
  go_ret
  exact ⟨by first | rfl | (simp; done) | (simp [*]; done), by repeat (first | exact Drawn0.refl _ | apply Drawn0.step)⟩

/-! ### tfm_table_1: function 47 -/
def tfm_table_1.f (a0 : Int) : Option (Bool) := (tfm_fix.f a0).bind fun t101 => (some (!t101))
set_option maxHeartbeats 8000000 in
set_option maxRecDepth 100000 in
theorem tfm_table_1.calls (a0 : Int) (r : Bool) (w : World) (h : tfm_table_1.f a0 = some r) :
  Calls Try.prog 47 #[.int .i64 a0] w fun e w' => e = .returned (.bool r) ∧ Drawn0 w w' := by
 have H : ((tfm_fix.f a0).bind fun t101 => (some (!t101))) = some r := h
 clear h
 replace H := Option.bind_eq_some_iff.mp H
 obtain ⟨t101, A20, H⟩ := H
 replace H : (some (!t101)) = some r := H
 have A2 := Aside0.mk A20
 clear A20
 obtain rfl := Option.some.inj H
 go_enter Try.func47, Try.ntmps47
 go_wp2_with (first | ((with_reducible refine gate_callee (f := 48) rfl ?_); refine goesL_ (some 4) rfl rfl Try.func48 (by kernel_rfl) rfl #[.int .i64 a0] rfl (by (try simp only [List.map_toArray, List.map_cons, List.map_nil]); first | done | rfl | (simp only [List.length_drop, List.length_take]; rfl)) ?_; (with_reducible refine (tfm_fix.calls a0 t101 _ A2.out).mono ?_); rintro e w' ⟨rfl, ⟨nd, rfl⟩⟩; refine ⟨_, rfl, ?_⟩))
 go_ret
 exact ⟨by first | rfl | (simp; done) | (simp [*]; done), by repeat (first | exact Drawn0.refl _ | apply Drawn0.step)⟩

/-! ### slices_IndexFunc_int_int: function 60 -/
-- by hand
set_option maxHeartbeats 4000000 in
theorem slices_IndexFunc_int_int.calls {g : Nat} {lb : Array Value} (eg : ∀ args w, (callFunc g args).run Try.prog w = .ok (.enter g args) w) (p : Int → Bool) (A0 : Option Addr) (c0 : Nat) (l0 : List Int) (w : World) (hr0 : Kd.C (Kd.int .i64) w A0 l0.length l0) (hp : PredK Try.prog g lb one1 (Kd.int .i64) p w l0) :
  Calls Try.prog 60 #[.slice A0 l0.length c0, .func (.func g) #[] lb] w fun e w' => e = .returned (.int .i64 (idxOf p l0)) ∧ Below w.heap.size w w' := by
 have hm := hr0.2.1
 have HR := Aside0.mk hr0
 have HP := Aside0.mk hp
 clear hr0 hp
 go_enter Try.func60, Try.ntmps60
 go_wp2
 go_loopg [5, 8] l0.length (fun gg _ s8 wr => ∃ kk : Nat, kk ≤ l0.length ∧ l0.length - kk ≤ gg ∧ s8 = .int .i64 kk ∧ Aside0 (Below w.heap.size w wr) ∧ Aside0 (∀ x ∈ l0.take kk, p x = false))
 case atStart => exact ⟨0, Nat.zero_le _, by omega, rfl, ⟨Below.refl _ w⟩, ⟨fun x hx => by simp at hx⟩⟩
 case round =>
  obtain ⟨kk, hkk, hg, rfl, HB, HN⟩ := hrel
  by_cases hlt : kk < l0.length
  ·have hltz : (kk : Int) < (l0.length : Int) := by omega
   obtain ⟨ad, c, rfl, hcl, hK, hc⟩ := C_elem (Kd.C_below HR.out HB.out) kk hlt
   have HC := Aside0.mk (HP.out l0[kk] (List.getElem_mem hlt) wr c HB.out hK)
   obtain rfl : c = [.int .i64 l0[kk]] := hK
   have hcell : wr.cell? (ad.add kk) = some (.int .i64 l0[kk]) := by simpa [Kd.int, Kd.scalar] using hc 0 _ rfl
   clear hc hcl
   have HX := Aside0.mk (show ∀ x ∈ l0.take kk, p x = false from HN.out)
   clear HN
   cases hq : p l0[kk] with
   | true =>
    have HQ := Aside0.mk hq
    rw [hq] at HC
    clear hq
    go_wp2_with (go_at_fn g; refine HC.out.mono ?_; rintro e w' ⟨rfl, hb'⟩)
    go_ret
    refine ⟨?_, below_step HB.out hb'⟩
    rw [idxOf_hit hlt HX.out HQ.out]
    rfl
   | false =>
    have HQ := Aside0.mk hq
    rw [hq] at HC
    clear hq
    go_wp2_with (go_at_fn g; refine HC.out.mono ?_; rintro e w' ⟨rfl, hb'⟩)
    go_roundg (l0.length - (kk + 1))
    case measure => omega
    case rel =>
     refine ⟨kk + 1, by omega, by omega, by go_num, ⟨below_step HB.out hb'⟩, ⟨fun x hx => ?_⟩⟩
     rw [List.take_succ_eq_append_getElem hlt] at hx
     rcases List.mem_append.1 hx with hx | hx
     ·exact HX.out x hx
     ·rw [List.mem_singleton.1 hx]; exact HQ.out
  ·have HX := Aside0.mk (show ∀ x ∈ l0, p x = false from fun x hx => HN.out x (by rw [List.take_of_length_le (by omega)]; exact hx))
   have hge : decide ((kk : Int) < (l0.length : Int)) = false := decide_eq_false (by omega)
   have hge' : decide (kk < l0.length) = false := decide_eq_false hlt
   clear HN
   go_wp2
   go_ret
   exact ⟨by rw [idxOf_none HX.out]; rfl, HB.out⟩


/-! ### slices_ContainsFunc_int_int: function 49 -/
-- by hand
set_option maxHeartbeats 4000000 in
theorem slices_ContainsFunc_int_int.calls {g : Nat} {lb : Array Value} (eg : ∀ args w, (callFunc g args).run Try.prog w = .ok (.enter g args) w) (p : Int → Bool) (A0 : Option Addr) (c0 : Nat) (l0 : List Int) (w : World) (hr0 : Kd.C (Kd.int .i64) w A0 l0.length l0) (hp : PredK Try.prog g lb one1 (Kd.int .i64) p w l0) :
  Calls Try.prog 49 #[.slice A0 l0.length c0, .func (.func g) #[] lb] w fun e w' => e = .returned (.bool (l0.any p)) ∧ Below w.heap.size w w' := by
 have HR := Aside0.mk hr0
 have HP := Aside0.mk hp
 clear hr0 hp
 have HA := Aside0.mk (idxOf_any p l0)
 go_enter Try.func49, Try.ntmps49
 go_wp2_with (go_at_call 60; (with_reducible refine (slices_IndexFunc_int_int.calls eg p A0 c0 l0 _ HR.out HP.out).mono ?_); rintro e w' ⟨rfl, hb⟩)
 go_ret
 exact ⟨by rw [← HA.out]; rfl, hb⟩


/-! ### tfm_table_1_any: slices.ContainsFunc[[]int,int] over compositor/tfm.table$1 -/
def tfm_table_1_any.f (l0 : List Int) : Option Bool := if (l0.all fun x => (tfm_table_1.f x).isSome) = true then some (l0.any fun x => (tfm_table_1.f x) == some true) else none
set_option maxHeartbeats 4000000 in
theorem tfm_table_1_any.calls (A0 : Option Addr) (c0 : Nat) (l0 : List Int) (r : Bool) (w : World) (hr0 : Kd.C (Kd.int .i64) w A0 l0.length l0) (hc0 : l0.length ≤ c0) (h : tfm_table_1_any.f l0 = some r) :
  Calls Try.prog 49 #[.slice A0 l0.length c0, .func (.func 47) #[] #[]] w fun e w' => e = .returned (.bool r) ∧ Below w.heap.size w w' := by
 unfold tfm_table_1_any.f at h
 split at h
 ·rename_i hall
  obtain rfl := Option.some.inj h
  refine slices_ContainsFunc_int_int.calls (enters_of Try.func47 (by kernel_rfl) rfl) (fun x => (tfm_table_1.f x) == some true) A0 c0 l0 w hr0 ?_
  intro x hx W cs hB hK
  have hs := List.all_eq_true.1 hall x hx
  obtain ⟨b, hb⟩ := Option.isSome_iff_exists.1 hs
  have hbb : ((tfm_table_1.f x) == some true) = b := by rw [hb]; cases b <;> rfl
  obtain rfl : cs = [.int .i64 x] := hK
  exact (tfm_table_1.calls x b W hb).mono (fun e w' ⟨he, hw⟩ => ⟨by rw [he, ← hbb], hw.below⟩)
 ·cases h

/-! ### tfm_table: function 26 -/
def tfm_table.f (l0 : List Int) (a1 : Int) (a2 : Int) : Option (Bool) := if (l0.length : Int) ≥ a1 then (if (l0.length : Int) ≤ a2 then ((tfm_table_1_any.f l0).bind fun t102 => (if t102 = true then (some false) else (if a1 = 0 then (some true) else (if 0 < (l0.length : Int) then (some ((rd l0 0) == 0)) else (none))))) else (some false)) else (some false)
set_option maxHeartbeats 8000000 in
set_option maxRecDepth 100000 in
theorem tfm_table.calls (A0 : Option Addr) (c0 : Nat) (l0 : List Int) (a1 : Int) (a2 : Int) (r : Bool) (w : World) (hr0 : Kd.C (Kd.int .i64) w A0 l0.length l0) (hc0 : l0.length ≤ c0) (h : tfm_table.f l0 a1 a2 = some r) :
  Calls Try.prog 26 #[.slice A0 l0.length c0, .int .i64 a1, .int .i64 a2] w fun e w' => e = .returned (.bool r) ∧ Below w.heap.size w w' := by
 have HR0 := Aside0.mk hr0
 have HC0 := Aside0.mk hc0
 clear hr0 hc0
 have HB := Aside0.mk (Below.refl w.heap.size w)
 have H : (if (l0.length : Int) ≥ a1 then (if (l0.length : Int) ≤ a2 then ((tfm_table_1_any.f l0).bind fun t102 => (if t102 = true then (some false) else (if a1 = 0 then (some true) else (if 0 < (l0.length : Int) then (some ((rd l0 0) == 0)) else (none))))) else (some false)) else (some false)) = some r := h
 clear h
 by_cases c4 : (l0.length : Int) ≥ a1
 ·rw [if_pos c4] at H
  have c4b0 : decide (a1 ≤ (l0.length : Int)) = true := decide_eq_true c4
  clear c4
  by_cases c5 : (l0.length : Int) ≤ a2
  ·rw [if_pos c5] at H
   have c5b0 : decide ((l0.length : Int) ≤ a2) = true := decide_eq_true c5
   clear c5
   replace H := Option.bind_eq_some_iff.mp H
   obtain ⟨t102, A60, H⟩ := H
   replace H : (if t102 = true then (some false) else (if a1 = 0 then (some true) else (if 0 < (l0.length : Int) then (some ((rd l0 0) == 0)) else (none)))) = some r := H
   have A6 := Aside0.mk A60
   clear A60
   by_cases c7 : t102 = true
   ·subst c7
    have H1 : (some false) = some r := by rw [if_pos rfl] at H; exact H
    clear H
    have H := H1
    clear H1
    obtain rfl := Option.some.inj H
    go_enter Try.func26, Try.ntmps26
    go_wp2_with (first | (go_at_call 49; (with_reducible refine (tfm_table_1_any.calls _ _ l0 true _ ?side1 ?side2 A6.out).mono ?_); (case side1 => repeat (first | exact HR0.out | (with_reducible apply Kd.C_alloc) | (with_reducible apply Kd.C_drewN) | (with_reducible apply Kd.C_drew))); (case side2 => exact HC0.out); rintro e w8 ⟨rfl, hb⟩; have n0_ := Aside0.mk (below_step (by repeat (first | (with_reducible first | exact HB.out | apply below_alloc | apply pw_below_drewN | apply below_drew1) | exact HB.out)) hb); clear HB; have HB := n0_; clear n0_; (try clear hb); (try clear hb2); (try clear hk); (try clear hi)))
    go_ret
    exact ⟨by first | rfl | (simp [errW_none, errW_some] <;> rfl) | (simp [*, errW_none, errW_some] <;> rfl), by repeat (first | (with_reducible first | exact HB.out | apply below_alloc | apply pw_below_drewN | apply below_drew1) | exact HB.out)⟩
   ·replace c7 := Bool.eq_false_iff.mpr c7
    subst c7
    have H1 : (if a1 = 0 then (some true) else (if 0 < (l0.length : Int) then (some ((rd l0 0) == 0)) else (none))) = some r := by rw [if_neg (show ¬ (false = true) by decide)] at H; exact H
    clear H
    have H := H1
    clear H1
    by_cases c9 : a1 = 0
    ·rw [if_pos c9] at H
     have c9b0 : (a1 == 0) = true := beq_iff_eq.mpr c9
     have c9b1 : (a1 != 0) = false := bne_eq_false_iff_eq.mpr c9
     clear c9
     obtain rfl := Option.some.inj H
     go_enter Try.func26, Try.ntmps26
     go_wp2_with (first | (go_at_call 49; (with_reducible refine (tfm_table_1_any.calls _ _ l0 false _ ?side1 ?side2 A6.out).mono ?_); (case side1 => repeat (first | exact HR0.out | (with_reducible apply Kd.C_alloc) | (with_reducible apply Kd.C_drewN) | (with_reducible apply Kd.C_drew))); (case side2 => exact HC0.out); rintro e w10 ⟨rfl, hb⟩; have n0_ := Aside0.mk (below_step (by repeat (first | (with_reducible first | exact HB.out | apply below_alloc | apply pw_below_drewN | apply below_drew1) | exact HB.out)) hb); clear HB; have HB := n0_; clear n0_; (try clear hb); (try clear hb2); (try clear hk); (try clear hi)))
     go_ret
     exact ⟨by first | rfl | (simp [errW_none, errW_some] <;> rfl) | (simp [*, errW_none, errW_some] <;> rfl), by repeat (first | (with_reducible first | exact HB.out | apply below_alloc | apply pw_below_drewN | apply below_drew1) | exact HB.out)⟩
    ·rw [if_neg c9] at H
     have c9b0 : (a1 == 0) = false := beq_eq_false_iff_ne.mpr c9
     have c9b1 : (a1 != 0) = true := bne_iff_ne.mpr c9
     by_cases c11 : 0 < (l0.length : Int)
     ·rw [if_pos c11] at H
      have c11b0 : decide (0 < (l0.length : Int)) = true := decide_eq_true c11
      have c11b1 : decide (0 < l0.length) = true := decide_eq_true (by omega)
      clear c11
      obtain rfl := Option.some.inj H
      go_enter Try.func26, Try.ntmps26
      go_wp2_with (first | (go_at_call 49; (with_reducible refine (tfm_table_1_any.calls _ _ l0 false _ ?side1 ?side2 A6.out).mono ?_); (case side1 => repeat (first | exact HR0.out | (with_reducible apply Kd.C_alloc) | (with_reducible apply Kd.C_drewN) | (with_reducible apply Kd.C_drew))); (case side2 => exact HC0.out); rintro e w12 ⟨rfl, hb⟩; have n0_ := Aside0.mk (below_step (by repeat (first | (with_reducible first | exact HB.out | apply below_alloc | apply pw_below_drewN | apply below_drew1) | exact HB.out)) hb); clear HB; have HB := n0_; clear n0_; (try clear hb); (try clear hb2); (try clear hk); (try clear hi); have p103 : 0 ≤ (0 : Int) := (by omega); have q103 : 0 < (l0.length : Int) := odt; obtain ⟨ad103, e103, hx103_0⟩ := Kd.at_int HR0.out 0 p103 q103; cases e103; have qi103 : (0 < l0.length) = True := eq_true (by omega); (try rw [show ((0 : Int)).toNat = 0 from rfl] at hx103_0); (try rw [Addr.add_zero'] at hx103_0); replace hx103_0 := (HB.out.cell (World.block_lt_of_cell? w _ hx103_0)).trans hx103_0; replace p103 := eq_true p103; replace q103 := eq_true q103))
      go_ret
      exact ⟨by first | rfl | (simp [errW_none, errW_some] <;> rfl) | (simp [*, errW_none, errW_some] <;> rfl), by repeat (first | (with_reducible first | exact HB.out | apply below_alloc | apply pw_below_drewN | apply below_drew1) | exact HB.out)⟩
     ·rw [if_neg c11] at H
      exact absurd H (by simp)
  ·rw [if_neg c5] at H
   have c5b0 : decide ((l0.length : Int) ≤ a2) = false := decide_eq_false c5
   clear c5
   obtain rfl := Option.some.inj H
   go_enter Try.func26, Try.ntmps26
   go_wp2
   go_ret
   exact ⟨by first | rfl | (simp [errW_none, errW_some] <;> rfl) | (simp [*, errW_none, errW_some] <;> rfl), by repeat (first | (with_reducible first | exact HB.out | apply below_alloc | apply pw_below_drewN | apply below_drew1) | exact HB.out)⟩
 ·rw [if_neg c4] at H
  have c4b0 : decide (a1 ≤ (l0.length : Int)) = false := decide_eq_false c4
  clear c4
  obtain rfl := Option.some.inj H
  go_enter Try.func26, Try.ntmps26
  go_wp2
  go_ret
  exact ⟨by first | rfl | (simp [errW_none, errW_some] <;> rfl) | (simp [*, errW_none, errW_some] <;> rfl), by repeat (first | (with_reducible first | exact HB.out | apply below_alloc | apply pw_below_drewN | apply below_drew1) | exact HB.out)⟩

/-! ### api_Char_50: function 50 -/
-- by hand
set_option maxHeartbeats 4000000 in
theorem api_Char_50.calls {g : Nat} {lb : Array Value} (eg : ∀ args w, (callFunc g args).run Try.prog w = .ok (.enter g args) w) (p : S42 → Bool) (A0 : Option Addr) (c0 : Nat) (l0 : List S42) (w : World) (hr0 : Kd.C k42 w A0 l0.length l0) (hp : PredK Try.prog g lb agg1 k42 p w l0) :
  Calls Try.prog 50 #[.slice A0 l0.length c0, .func (.func g) #[] lb] w fun e w' => e = .returned (.int .i64 (idxOf p l0)) ∧ Below w.heap.size w w' := by
 have hm := hr0.2.1
 have HR := Aside0.mk hr0
 have HP := Aside0.mk hp
 clear hr0 hp
 have hu := Try.underlying42
 go_enter Try.func50, Try.ntmps50
 go_wp2
 go_loopg [5, 8] l0.length (fun gg _ s8 wr => ∃ kk : Nat, kk ≤ l0.length ∧ l0.length - kk ≤ gg ∧ s8 = .int .i64 kk ∧ Aside0 (Below w.heap.size w wr) ∧ Aside0 (∀ x ∈ l0.take kk, p x = false))
 case atStart => exact ⟨0, Nat.zero_le _, by omega, rfl, ⟨Below.refl _ w⟩, ⟨fun x hx => by simp at hx⟩⟩
 case round =>
  obtain ⟨kk, hkk, hg, rfl, HB, HN⟩ := hrel
  by_cases hlt : kk < l0.length
  ·have hltz : (kk : Int) < (l0.length : Int) := by omega
   obtain ⟨ad, c, rfl, hcl, hK, hc⟩ := C_elem (Kd.C_below HR.out HB.out) kk hlt
   have HC := Aside0.mk (HP.out l0[kk] (List.getElem_mem hlt) wr c HB.out hK)
   obtain ⟨e0, e1, e2, e3, e4, e5, rfl⟩ := list6 hcl
   have hcell0 : wr.cell? (ad.add (kk * 6)) = some e0 := hc 0 e0 rfl
   have hcell1 : wr.cell? ⟨(ad.add (kk * 6)).block, (ad.add (kk * 6)).off + 1, none⟩ = some e1 := cell_add1 (by decide) (hc 1 e1 rfl)
   have hcell2 : wr.cell? ⟨(ad.add (kk * 6)).block, (ad.add (kk * 6)).off + 2, none⟩ = some e2 := cell_add1 (by decide) (hc 2 e2 rfl)
   have hcell3 : wr.cell? ⟨(ad.add (kk * 6)).block, (ad.add (kk * 6)).off + 3, none⟩ = some e3 := cell_add1 (by decide) (hc 3 e3 rfl)
   have hcell4 : wr.cell? ⟨(ad.add (kk * 6)).block, (ad.add (kk * 6)).off + 4, none⟩ = some e4 := cell_add1 (by decide) (hc 4 e4 rfl)
   have hcell5 : wr.cell? ⟨(ad.add (kk * 6)).block, (ad.add (kk * 6)).off + 5, none⟩ = some e5 := cell_add1 (by decide) (hc 5 e5 rfl)
   replace HC : Aside0 (Calls Try.prog g (#[.agg #[e0, e1, e2, e3, e4, e5]] ++ lb) wr fun e w' => e = .returned (.bool (p l0[kk])) ∧ Below wr.heap.size wr w') := HC
   clear hc hcl hK
   have HX := Aside0.mk (show ∀ x ∈ l0.take kk, p x = false from HN.out)
   clear HN
   cases hq : p l0[kk] with
   | true =>
    have HQ := Aside0.mk hq
    rw [hq] at HC
    clear hq
    go_wp2_with (go_at_fn g; refine HC.out.mono ?_; rintro e w' ⟨rfl, hb'⟩)
    go_ret
    refine ⟨?_, below_step HB.out hb'⟩
    rw [idxOf_hit hlt HX.out HQ.out]
    rfl
   | false =>
    have HQ := Aside0.mk hq
    rw [hq] at HC
    clear hq
    go_wp2_with (go_at_fn g; refine HC.out.mono ?_; rintro e w' ⟨rfl, hb'⟩)
    go_roundg (l0.length - (kk + 1))
    case measure => omega
    case rel =>
     refine ⟨kk + 1, by omega, by omega, by go_num, ⟨below_step HB.out hb'⟩, ⟨fun x hx => ?_⟩⟩
     rw [List.take_succ_eq_append_getElem hlt] at hx
     rcases List.mem_append.1 hx with hx | hx
     ·exact HX.out x hx
     ·rw [List.mem_singleton.1 hx]; exact HQ.out
  ·have HX := Aside0.mk (show ∀ x ∈ l0, p x = false from fun x hx => HN.out x (by rw [List.take_of_length_le (by omega)]; exact hx))
   have hge : decide ((kk : Int) < (l0.length : Int)) = false := decide_eq_false (by omega)
   have hge' : decide (kk < l0.length) = false := decide_eq_false hlt
   clear HN
   go_wp2
   go_ret
   exact ⟨by rw [idxOf_none HX.out]; rfl, HB.out⟩


/-! ### api_Char_27: function 27 -/
-- by hand
set_option maxHeartbeats 4000000 in
theorem api_Char_27.calls {g : Nat} {lb : Array Value} (eg : ∀ args w, (callFunc g args).run Try.prog w = .ok (.enter g args) w) (p : S42 → Bool) (A0 : Option Addr) (c0 : Nat) (l0 : List S42) (w : World) (hr0 : Kd.C k42 w A0 l0.length l0) (hp : PredK Try.prog g lb agg1 k42 p w l0) :
  Calls Try.prog 27 #[.slice A0 l0.length c0, .func (.func g) #[] lb] w fun e w' => e = .returned (.bool (l0.any p)) ∧ Below w.heap.size w w' := by
 have HR := Aside0.mk hr0
 have HP := Aside0.mk hp
 clear hr0 hp
 have HA := Aside0.mk (idxOf_any p l0)
 go_enter Try.func27, Try.ntmps27
 go_wp2_with (go_at_call 50; (with_reducible refine (api_Char_50.calls eg p A0 c0 l0 _ HR.out HP.out).mono ?_); rintro e w' ⟨rfl, hb⟩)
 go_ret
 exact ⟨by rw [← HA.out]; rfl, hb⟩


end Go.Proofs.Ytpijgpjoobffoaa.G
