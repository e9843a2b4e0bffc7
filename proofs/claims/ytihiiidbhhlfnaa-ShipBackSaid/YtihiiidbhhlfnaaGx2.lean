/- Contracts of the functions of this seat: what each call computes, as a plain Lean function. Made by this session's own generator. -/
import Derived.Test.YtihiiidbhhlfnaaGx0
namespace Go.Proofs.Ytihiiidbhhlfnaa.G
open Go.RowKit Go.Proofs.YtihiiidbhhlfnaaMy Go.Proofs.YtihiiidbhhlfnaaW.PrintWords Go.Proofs.YtihiiidbhhlfnaaW.PrintLast Go.Proofs.YtihiiidbhhlfnaaW.PrintMore
attribute [local go_sem] max2_int min2_int max_two min_two max_three min_three max_four min_four   -- for this text's walks alone
set_option linter.unusedVariables false
set_option linter.unusedSimpArgs false

/-! ### api_Row_39: function 39 -/
-- by hand
set_option maxHeartbeats 4000000 in
theorem api_Row_39.calls {g : Nat} {lb : Array Value} (eg : ∀ args w, (callFunc g args).run Try.prog w = .ok (.enter g args) w) (p : S41 → Bool) (A0 : Option Addr) (c0 : Nat) (l0 : List S41) (w : World) (hr0 : Kd.C k41 w A0 l0.length l0) (hp : PredK Try.prog g lb agg1 k41 p w l0) :
  Calls Try.prog 39 #[.slice A0 l0.length c0, .func (.func g) #[] lb] w fun e w' => e = .returned (.int .i64 (idxOf p l0)) ∧ Below w.heap.size w w' := by
 have hm := hr0.2.1
 have HR := Aside0.mk hr0
 have HP := Aside0.mk hp
 clear hr0 hp
 have hu := Try.underlying41
 go_enter Try.func39, Try.ntmps39
 go_wp2
 go_loopg [5, 8] l0.length (fun gg _ s8 wr => ∃ kk : Nat, kk ≤ l0.length ∧ l0.length - kk ≤ gg ∧ s8 = .int .i64 kk ∧ Aside0 (Below w.heap.size w wr) ∧ Aside0 (∀ x ∈ l0.take kk, p x = false))
 case atStart => exact ⟨0, Nat.zero_le _, by omega, rfl, ⟨Below.refl _ w⟩, ⟨fun x hx => by simp at hx⟩⟩
 case round =>
  obtain ⟨kk, hkk, hg, rfl, HB, HN⟩ := hrel
  by_cases hlt : kk < l0.length
  ·have hltz : (kk : Int) < (l0.length : Int) := by omega
   obtain ⟨ad, c, rfl, hcl, hK, hc⟩ := C_elem (Kd.C_below HR.out HB.out) kk hlt
   have HC := Aside0.mk (HP.out l0[kk] (List.getElem_mem hlt) wr c HB.out hK)
   obtain ⟨e0, e1, e2, e3, e4, rfl⟩ := list5 hcl
   have hcell0 : wr.cell? (ad.add (kk * 5)) = some e0 := hc 0 e0 rfl
   have hcell1 : wr.cell? ⟨(ad.add (kk * 5)).block, (ad.add (kk * 5)).off + 1, none⟩ = some e1 := cell_add1 (by decide) (hc 1 e1 rfl)
   have hcell2 : wr.cell? ⟨(ad.add (kk * 5)).block, (ad.add (kk * 5)).off + 2, none⟩ = some e2 := cell_add1 (by decide) (hc 2 e2 rfl)
   have hcell3 : wr.cell? ⟨(ad.add (kk * 5)).block, (ad.add (kk * 5)).off + 3, none⟩ = some e3 := cell_add1 (by decide) (hc 3 e3 rfl)
   have hcell4 : wr.cell? ⟨(ad.add (kk * 5)).block, (ad.add (kk * 5)).off + 4, none⟩ = some e4 := cell_add1 (by decide) (hc 4 e4 rfl)
   replace HC : Aside0 (Calls Try.prog g (#[.agg #[e0, e1, e2, e3, e4]] ++ lb) wr fun e w' => e = .returned (.bool (p l0[kk])) ∧ Below wr.heap.size wr w') := HC
   clear hc hcl hK
   have HX := Aside0.mk (show ∀ x ∈ l0.take kk, p x = false from HN.out)
   clear HN
   cases hq : p l0[kk] with
   | true =>
    have HQ := Aside0.mk hq
    rw [hq] at HC
    clear hq
    go_wp2_with (go_at_fn g; refine HC.out.mono ?_; rintro e w' ⟨rfl, hb'⟩)
    go_ret
    refine ⟨?_, below_step HB.out hb'⟩
    rw [idxOf_hit hlt HX.out HQ.out]
    rfl
   | false =>
    have HQ := Aside0.mk hq
    rw [hq] at HC
    clear hq
    go_wp2_with (go_at_fn g; refine HC.out.mono ?_; rintro e w' ⟨rfl, hb'⟩)
    go_roundg (l0.length - (kk + 1))
    case measure => omega
    case rel =>
     refine ⟨kk + 1, by omega, by omega, by go_num, ⟨below_step HB.out hb'⟩, ⟨fun x hx => ?_⟩⟩
     rw [List.take_succ_eq_append_getElem hlt] at hx
     rcases List.mem_append.1 hx with hx | hx
     ·exact HX.out x hx
     ·rw [List.mem_singleton.1 hx]; exact HQ.out
  ·have HX := Aside0.mk (show ∀ x ∈ l0, p x = false from fun x hx => HN.out x (by rw [List.take_of_length_le (by omega)]; exact hx))
   have hge : decide ((kk : Int) < (l0.length : Int)) = false := decide_eq_false (by omega)
   have hge' : decide (kk < l0.length) = false := decide_eq_false hlt
   clear HN
   go_wp2
   go_ret
   exact ⟨by rw [idxOf_none HX.out]; rfl, HB.out⟩


/-! ### api_Row_26: function 26 -/
-- by hand
set_option maxHeartbeats 4000000 in
theorem api_Row_26.calls {g : Nat} {lb : Array Value} (eg : ∀ args w, (callFunc g args).run Try.prog w = .ok (.enter g args) w) (p : S41 → Bool) (A0 : Option Addr) (c0 : Nat) (l0 : List S41) (w : World) (hr0 : Kd.C k41 w A0 l0.length l0) (hp : PredK Try.prog g lb agg1 k41 p w l0) :
  Calls Try.prog 26 #[.slice A0 l0.length c0, .func (.func g) #[] lb] w fun e w' => e = .returned (.bool (l0.any p)) ∧ Below w.heap.size w w' := by
 have HR := Aside0.mk hr0
 have HP := Aside0.mk hp
 clear hr0 hp
 have HA := Aside0.mk (idxOf_any p l0)
 go_enter Try.func26, Try.ntmps26
 go_wp2_with (go_at_call 39; (with_reducible refine (api_Row_39.calls eg p A0 c0 l0 _ HR.out HP.out).mono ?_); rintro e w' ⟨rfl, hb⟩)
 go_ret
 exact ⟨by rw [← HA.out]; rfl, hb⟩


/-! ### ship_word: function 41 -/
def ship_word.f (a0 : Int) : Option (Bool) := if a0 ≥ (-2147483648) then (some (decide (a0 < 2147483648))) else (some false)
set_option maxHeartbeats 8000000 in
set_option maxRecDepth 100000 in
theorem ship_word.calls (a0 : Int) (r : Bool) (w : World) (h : ship_word.f a0 = some r) :
  Calls Try.prog 41 #[.int .i64 a0] w fun e w' => e = .returned (.bool r) ∧ Drawn0 w w' := by
 have H : (if a0 ≥ (-2147483648) then (some (decide (a0 < 2147483648))) else (some false)) = some r := h
 clear h
 by_cases c2 : a0 ≥ (-2147483648)
 ·rw [if_pos c2] at H
  have c2b0 : decide ((-2147483648) ≤ a0) = true := decide_eq_true c2
  clear c2
  obtain rfl := Option.some.inj H
  go_enter Try.func41, Try.ntmps41
  go_wp2
  go_ret
  exact ⟨by first | rfl | (simp; done) | (simp [*]; done), by repeat (first | exact Drawn0.refl _ | apply Drawn0.step)⟩
 ·rw [if_neg c2] at H
  have c2b0 : decide ((-2147483648) ≤ a0) = false := decide_eq_false c2
  clear c2
  obtain rfl := Option.some.inj H
  go_enter Try.func41, Try.ntmps41
  go_wp2
  go_ret
  exact ⟨by first | rfl | (simp; done) | (simp [*]; done), by repeat (first | exact Drawn0.refl _ | apply Drawn0.step)⟩

/-! ### ship_row_1: function 40 -/
def ship_row_1.f (a0_0 : Int) (a0_1 : Int) : Option (Bool) := if a0_0 < 0 then (some true) else (if a0_0 > 255 then (some true) else ((ship_word.f a0_1).bind fun t102 => (some (!t102))))
set_option maxHeartbeats 8000000 in
set_option maxRecDepth 100000 in
theorem ship_row_1.calls (a0_0 : Int) (a0_1 : Int) (r : Bool) (w : World) (h : ship_row_1.f a0_0 a0_1 = some r) :
  Calls Try.prog 40 #[.agg #[.int .i64 a0_0, .int .i64 a0_1]] w fun e w' => e = .returned (.bool r) ∧ Below w.heap.size w w' := by
 have hu43 := Try.underlying43
 have HB := Aside0.mk (Below.refl w.heap.size w)
 have H : (if a0_0 < 0 then (some true) else (if a0_0 > 255 then (some true) else ((ship_word.f a0_1).bind fun t102 => (some (!t102))))) = some r := h
 clear h
 by_cases c2 : a0_0 < 0
 ·rw [if_pos c2] at H
  have c2b0 : decide (a0_0 < 0) = true := decide_eq_true c2
  clear c2
  obtain rfl := Option.some.inj H
  go_enter Try.func40, Try.ntmps40
  go_wp2_with (first | ((with_reducible refine gate_dst (N := 1) rfl ?_); refine box_event ?hg (N := 1) ?hd (cs := #[.int .i64 a0_0, .int .i64 a0_1]) (t := 43) ?hr ?_; (case hd => rfl); (case hg => rfl); (case hr => first | (go_simp; done) | (go_simp; rfl)); intro gb101 hg w3 hbox hb; have n0_ := Aside0.mk (below_step (by repeat (first | (with_reducible first | exact HB.out | apply below_alloc | apply pw_below_drewN | apply below_drew1) | exact HB.out)) hb); have n1_ := Aside0.mk (hbox); have n2_ := Aside0.mk ((by rw [hg]; exact (below_size (by repeat (first | (with_reducible first | exact HB.out | apply below_alloc | apply pw_below_drewN | apply below_drew1) | exact HB.out))) : w.heap.size ≤ gb101)); have n3_ := Aside0.mk ((by rw [hg]; exact (below_size (by repeat (first | (with_reducible first | exact HB.out | apply below_alloc | apply pw_below_drewN | apply below_drew1) | exact HB.out))) : w.heap.size ≤ gb101)); clear HB; have HB := n0_; have BK101 := n1_; have GW101 := n2_; have GE101 := n3_; clear n0_ n1_ n2_ n3_; clear hb hbox hg; have hcz4_0 : w3.cell? ⟨gb101, 0, none⟩ = some (.int .i64 a0_0) := (blk_cell BK101.out 0).trans rfl; have hcz4_1 : w3.cell? ⟨gb101, 1, none⟩ = some (.int .i64 a0_1) := (blk_cell BK101.out 1).trans rfl; have hfz4_0 := blk_frozen BK101.out 0; have hfz4_1 := blk_frozen BK101.out 1))
  go_ret
  exact ⟨by first | rfl | (simp [errW_none, errW_some] <;> rfl) | (simp [*, errW_none, errW_some] <;> rfl), by repeat (first | (with_reducible first | exact HB.out | apply below_alloc | apply pw_below_drewN | apply below_drew1 | refine below_set ?_ GE101.out) | exact HB.out)⟩
 ·rw [if_neg c2] at H
  have c2b0 : decide (a0_0 < 0) = false := decide_eq_false c2
  clear c2
  by_cases c5 : a0_0 > 255
  ·rw [if_pos c5] at H
   have c5b0 : decide (255 < a0_0) = true := decide_eq_true c5
   clear c5
   obtain rfl := Option.some.inj H
   go_enter Try.func40, Try.ntmps40
   go_wp2_with (first | ((with_reducible refine gate_dst (N := 1) rfl ?_); refine box_event ?hg (N := 1) ?hd (cs := #[.int .i64 a0_0, .int .i64 a0_1]) (t := 43) ?hr ?_; (case hd => rfl); (case hg => rfl); (case hr => first | (go_simp; done) | (go_simp; rfl)); intro gb101 hg w6 hbox hb; have n0_ := Aside0.mk (below_step (by repeat (first | (with_reducible first | exact HB.out | apply below_alloc | apply pw_below_drewN | apply below_drew1) | exact HB.out)) hb); have n1_ := Aside0.mk (hbox); have n2_ := Aside0.mk ((by rw [hg]; exact (below_size (by repeat (first | (with_reducible first | exact HB.out | apply below_alloc | apply pw_below_drewN | apply below_drew1) | exact HB.out))) : w.heap.size ≤ gb101)); have n3_ := Aside0.mk ((by rw [hg]; exact (below_size (by repeat (first | (with_reducible first | exact HB.out | apply below_alloc | apply pw_below_drewN | apply below_drew1) | exact HB.out))) : w.heap.size ≤ gb101)); clear HB; have HB := n0_; have BK101 := n1_; have GW101 := n2_; have GE101 := n3_; clear n0_ n1_ n2_ n3_; clear hb hbox hg; have hcz7_0 : w6.cell? ⟨gb101, 0, none⟩ = some (.int .i64 a0_0) := (blk_cell BK101.out 0).trans rfl; have hcz7_1 : w6.cell? ⟨gb101, 1, none⟩ = some (.int .i64 a0_1) := (blk_cell BK101.out 1).trans rfl; have hfz7_0 := blk_frozen BK101.out 0; have hfz7_1 := blk_frozen BK101.out 1))
   go_ret
   exact ⟨by first | rfl | (simp [errW_none, errW_some] <;> rfl) | (simp [*, errW_none, errW_some] <;> rfl), by repeat (first | (with_reducible first | exact HB.out | apply below_alloc | apply pw_below_drewN | apply below_drew1 | refine below_set ?_ GE101.out) | exact HB.out)⟩
  ·rw [if_neg c5] at H
   have c5b0 : decide (255 < a0_0) = false := decide_eq_false c5
   clear c5
   replace H := Option.bind_eq_some_iff.mp H
   obtain ⟨t102, A80, H⟩ := H
   replace H : (some (!t102)) = some r := H
   have A8 := Aside0.mk A80
   clear A80
   obtain rfl := Option.some.inj H
   go_enter Try.func40, Try.ntmps40
   go_wp2_with (first | ((with_reducible refine gate_dst (N := 1) rfl ?_); refine box_event ?hg (N := 1) ?hd (cs := #[.int .i64 a0_0, .int .i64 a0_1]) (t := 43) ?hr ?_; (case hd => rfl); (case hg => rfl); (case hr => first | (go_simp; done) | (go_simp; rfl)); intro gb101 hg w9 hbox hb; have n0_ := Aside0.mk (below_step (by repeat (first | (with_reducible first | exact HB.out | apply below_alloc | apply pw_below_drewN | apply below_drew1) | exact HB.out)) hb); have n1_ := Aside0.mk (hbox); have n2_ := Aside0.mk ((by rw [hg]; exact (below_size (by repeat (first | (with_reducible first | exact HB.out | apply below_alloc | apply pw_below_drewN | apply below_drew1) | exact HB.out))) : w.heap.size ≤ gb101)); have n3_ := Aside0.mk ((by rw [hg]; exact (below_size (by repeat (first | (with_reducible first | exact HB.out | apply below_alloc | apply pw_below_drewN | apply below_drew1) | exact HB.out))) : w.heap.size ≤ gb101)); clear HB; have HB := n0_; have BK101 := n1_; have GW101 := n2_; have GE101 := n3_; clear n0_ n1_ n2_ n3_; clear hb hbox hg; have hcz10_0 : w9.cell? ⟨gb101, 0, none⟩ = some (.int .i64 a0_0) := (blk_cell BK101.out 0).trans rfl; have hcz10_1 : w9.cell? ⟨gb101, 1, none⟩ = some (.int .i64 a0_1) := (blk_cell BK101.out 1).trans rfl; have hfz10_0 := blk_frozen BK101.out 0; have hfz10_1 := blk_frozen BK101.out 1) | (go_at_call 41; (with_reducible refine (ship_word.calls a0_1 t102 _ A8.out).mono ?_); rintro e w' ⟨rfl, ⟨nd, rfl⟩⟩))
   go_ret
   exact ⟨by first | rfl | (simp [errW_none, errW_some] <;> rfl) | (simp [*, errW_none, errW_some] <;> rfl), by repeat (first | (with_reducible first | exact HB.out | apply below_alloc | apply pw_below_drewN | apply below_drew1 | refine below_set ?_ GE101.out) | exact HB.out)⟩

/-! ### api_Placed_51: function 51 -/
-- by hand
set_option maxHeartbeats 4000000 in
theorem api_Placed_51.calls {g : Nat} {lb : Array Value} (eg : ∀ args w, (callFunc g args).run Try.prog w = .ok (.enter g args) w) (p : S43 → Bool) (A0 : Option Addr) (c0 : Nat) (l0 : List S43) (w : World) (hr0 : Kd.C k43 w A0 l0.length l0) (hp : PredK Try.prog g lb agg1 k43 p w l0) :
  Calls Try.prog 51 #[.slice A0 l0.length c0, .func (.func g) #[] lb] w fun e w' => e = .returned (.int .i64 (idxOf p l0)) ∧ Below w.heap.size w w' := by
 have hm := hr0.2.1
 have HR := Aside0.mk hr0
 have HP := Aside0.mk hp
 clear hr0 hp
 have hu := Try.underlying43
 go_enter Try.func51, Try.ntmps51
 go_wp2
 go_loopg [5, 8] l0.length (fun gg _ s8 wr => ∃ kk : Nat, kk ≤ l0.length ∧ l0.length - kk ≤ gg ∧ s8 = .int .i64 kk ∧ Aside0 (Below w.heap.size w wr) ∧ Aside0 (∀ x ∈ l0.take kk, p x = false))
 case atStart => exact ⟨0, Nat.zero_le _, by omega, rfl, ⟨Below.refl _ w⟩, ⟨fun x hx => by simp at hx⟩⟩
 case round =>
  obtain ⟨kk, hkk, hg, rfl, HB, HN⟩ := hrel
  by_cases hlt : kk < l0.length
  ·have hltz : (kk : Int) < (l0.length : Int) := by omega
   obtain ⟨ad, c, rfl, hcl, hK, hc⟩ := C_elem (Kd.C_below HR.out HB.out) kk hlt
   have HC := Aside0.mk (HP.out l0[kk] (List.getElem_mem hlt) wr c HB.out hK)
   obtain ⟨e0, e1, rfl⟩ := list2 hcl
   have hcell0 : wr.cell? (ad.add (kk * 2)) = some e0 := hc 0 e0 rfl
   have hcell1 : wr.cell? ⟨(ad.add (kk * 2)).block, (ad.add (kk * 2)).off + 1, none⟩ = some e1 := cell_add1 (by decide) (hc 1 e1 rfl)
   replace HC : Aside0 (Calls Try.prog g (#[.agg #[e0, e1]] ++ lb) wr fun e w' => e = .returned (.bool (p l0[kk])) ∧ Below wr.heap.size wr w') := HC
   clear hc hcl hK
   have HX := Aside0.mk (show ∀ x ∈ l0.take kk, p x = false from HN.out)
   clear HN
   cases hq : p l0[kk] with
   | true =>
    have HQ := Aside0.mk hq
    rw [hq] at HC
    clear hq
    go_wp2_with (go_at_fn g; refine HC.out.mono ?_; rintro e w' ⟨rfl, hb'⟩)
    go_ret
    refine ⟨?_, below_step HB.out hb'⟩
    rw [idxOf_hit hlt HX.out HQ.out]
    rfl
   | false =>
    have HQ := Aside0.mk hq
    rw [hq] at HC
    clear hq
    go_wp2_with (go_at_fn g; refine HC.out.mono ?_; rintro e w' ⟨rfl, hb'⟩)
    go_roundg (l0.length - (kk + 1))
    case measure => omega
    case rel =>
     refine ⟨kk + 1, by omega, by omega, by go_num, ⟨below_step HB.out hb'⟩, ⟨fun x hx => ?_⟩⟩
     rw [List.take_succ_eq_append_getElem hlt] at hx
     rcases List.mem_append.1 hx with hx | hx
     ·exact HX.out x hx
     ·rw [List.mem_singleton.1 hx]; exact HQ.out
  ·have HX := Aside0.mk (show ∀ x ∈ l0, p x = false from fun x hx => HN.out x (by rw [List.take_of_length_le (by omega)]; exact hx))
   have hge : decide ((kk : Int) < (l0.length : Int)) = false := decide_eq_false (by omega)
   have hge' : decide (kk < l0.length) = false := decide_eq_false hlt
   clear HN
   go_wp2
   go_ret
   exact ⟨by rw [idxOf_none HX.out]; rfl, HB.out⟩


/-! ### api_Placed_42: function 42 -/
-- by hand
set_option maxHeartbeats 4000000 in
theorem api_Placed_42.calls {g : Nat} {lb : Array Value} (eg : ∀ args w, (callFunc g args).run Try.prog w = .ok (.enter g args) w) (p : S43 → Bool) (A0 : Option Addr) (c0 : Nat) (l0 : List S43) (w : World) (hr0 : Kd.C k43 w A0 l0.length l0) (hp : PredK Try.prog g lb agg1 k43 p w l0) :
  Calls Try.prog 42 #[.slice A0 l0.length c0, .func (.func g) #[] lb] w fun e w' => e = .returned (.bool (l0.any p)) ∧ Below w.heap.size w w' := by
 have HR := Aside0.mk hr0
 have HP := Aside0.mk hp
 clear hr0 hp
 have HA := Aside0.mk (idxOf_any p l0)
 go_enter Try.func42, Try.ntmps42
 go_wp2_with (go_at_call 51; (with_reducible refine (api_Placed_51.calls eg p A0 c0 l0 _ HR.out HP.out).mono ?_); rintro e w' ⟨rfl, hb⟩)
 go_ret
 exact ⟨by rw [← HA.out]; rfl, hb⟩


/-! ### ship_row_1_any: slices.ContainsFunc[[]compositor/api.Placed,compositor/api.Placed] over compositor/ship.row$1 -/
def ship_row_1_any.f (l0 : List S43) : Option Bool := if (l0.all fun x => (ship_row_1.f x.f0 x.f1).isSome) = true then some (l0.any fun x => (ship_row_1.f x.f0 x.f1) == some true) else none
set_option maxHeartbeats 4000000 in
theorem ship_row_1_any.calls (A0 : Option Addr) (c0 : Nat) (l0 : List S43) (r : Bool) (w : World) (hr0 : Kd.C k43 w A0 l0.length l0) (hc0 : l0.length ≤ c0) (h : ship_row_1_any.f l0 = some r) :
  Calls Try.prog 42 #[.slice A0 l0.length c0, .func (.func 40) #[] #[]] w fun e w' => e = .returned (.bool r) ∧ Below w.heap.size w w' := by
 unfold ship_row_1_any.f at h
 split at h
 ·rename_i hall
  obtain rfl := Option.some.inj h
  refine api_Placed_42.calls (enters_of Try.func40 (by kernel_rfl) rfl) (fun x => (ship_row_1.f x.f0 x.f1) == some true) A0 c0 l0 w hr0 ?_
  intro x hx W cs hB hK
  have hs := List.all_eq_true.1 hall x hx
  obtain ⟨b, hb⟩ := Option.isSome_iff_exists.1 hs
  have hbb : ((ship_row_1.f x.f0 x.f1) == some true) = b := by rw [hb]; cases b <;> rfl
  obtain rfl := k43_open hK
  exact (ship_row_1.calls _ _ b W hb).mono (fun e w' ⟨he, hw⟩ => ⟨by rw [he, ← hbb], hw⟩)
 ·cases h

end Go.Proofs.Ytihiiidbhhlfnaa.G
