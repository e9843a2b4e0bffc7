/- Contracts of the functions of this seat: what each call computes, as a plain Lean function. Made by this session's own generator. -/
import Derived.Test.YtejpnfaaboicdaaGx0
namespace Go.Proofs.Ytejpnfaaboicdaa.G
open Go.RowKit Go.Proofs.YtejpnfaaboicdaaMy Go.Proofs.YtejpnfaaboicdaaW.PrintWords Go.Proofs.YtejpnfaaboicdaaW.PrintLast Go.Proofs.YtejpnfaaboicdaaW.PrintMore
attribute [local go_sem] max2_int min2_int max_two min_two max_three min_three max_four min_four   -- for this text's walks alone
set_option linter.unusedVariables false
set_option linter.unusedSimpArgs false

/-! ### slices_IndexFunc_int_int: function 35 -/
-- by hand
set_option maxHeartbeats 4000000 in
theorem slices_IndexFunc_int_int.calls {g : Nat} {lb : Array Value} (eg : ∀ args w, (callFunc g args).run Try.prog w = .ok (.enter g args) w) (p : Int → Bool) (A0 : Option Addr) (c0 : Nat) (l0 : List Int) (w : World) (hr0 : Kd.C (Kd.int .i64) w A0 l0.length l0) (hp : PredK Try.prog g lb one1 (Kd.int .i64) p w l0) :
    Calls Try.prog 35 #[.slice A0 l0.length c0, .func (.func g) #[] lb] w fun e w' => e = .returned (.int .i64 (idxOf p l0)) ∧ Below w.heap.size w w' := by
  have hm := hr0.2.1
  have HR := Aside0.mk hr0
  have HP := Aside0.mk hp
  clear hr0 hp
  go_enter Try.func35, Try.ntmps35
  go_wp2
  go_loopg [5, 8] l0.length (fun gg _ s8 wr => ∃ kk : Nat, kk ≤ l0.length ∧ l0.length - kk ≤ gg ∧ s8 = .int .i64 kk ∧ Aside0 (Below w.heap.size w wr) ∧ Aside0 (∀ x ∈ l0.take kk, p x = false))
  case atStart => exact ⟨0, Nat.zero_le _, by omega, rfl, ⟨Below.refl _ w⟩, ⟨fun x hx => by simp at hx⟩⟩
  case round =>
    obtain ⟨kk, hkk, hg, rfl, HB, HN⟩ := hrel
    by_cases hlt : kk < l0.length
    · have hltz : (kk : Int) < (l0.length : Int) := by omega
      obtain ⟨ad, c, rfl, hcl, hK, hc⟩ := C_elem (Kd.C_below HR.out HB.out) kk hlt
      have HC := Aside0.mk (HP.out l0[kk] (List.getElem_mem hlt) wr c HB.out hK)
      obtain rfl : c = [.int .i64 l0[kk]] := hK
      have hcell : wr.cell? (ad.add kk) = some (.int .i64 l0[kk]) := by simpa [Kd.int, Kd.scalar] using hc 0 _ rfl
      clear hc hcl
      have HX := Aside0.mk (show ∀ x ∈ l0.take kk, p x = false from HN.out)
      clear HN
      cases hq : p l0[kk] with
      | true =>
        have HQ := Aside0.mk hq
        rw [hq] at HC
        clear hq
        go_wp2_with (go_at_fn g; refine HC.out.mono ?_; rintro e w' ⟨rfl, hb'⟩)
        go_ret
        refine ⟨?_, below_step HB.out hb'⟩
        rw [idxOf_hit hlt HX.out HQ.out]
        rfl
      | false =>
        have HQ := Aside0.mk hq
        rw [hq] at HC
        clear hq
        go_wp2_with (go_at_fn g; refine HC.out.mono ?_; rintro e w' ⟨rfl, hb'⟩)
        go_roundg (l0.length - (kk + 1))
        case measure => omega
        case rel =>
          refine ⟨kk + 1, by omega, by omega, by go_num, ⟨below_step HB.out hb'⟩, ⟨fun x hx => ?_⟩⟩
          rw [List.take_succ_eq_append_getElem hlt] at hx
          rcases List.mem_append.1 hx with hx | hx
          · exact HX.out x hx
          · rw [List.mem_singleton.1 hx]; exact HQ.out
    · have HX := Aside0.mk (show ∀ x ∈ l0, p x = false from fun x hx => HN.out x (by rw [List.take_of_length_le (by omega)]; exact hx))
      have hge : decide ((kk : Int) < (l0.length : Int)) = false := decide_eq_false (by omega)
      have hge' : decide (kk < l0.length) = false := decide_eq_false hlt
      clear HN
      go_wp2
      go_ret
      exact ⟨by rw [idxOf_none HX.out]; rfl, HB.out⟩


/-! ### slices_ContainsFunc_int_int: function 32 -/
-- by hand
set_option maxHeartbeats 4000000 in
theorem slices_ContainsFunc_int_int.calls {g : Nat} {lb : Array Value} (eg : ∀ args w, (callFunc g args).run Try.prog w = .ok (.enter g args) w) (p : Int → Bool) (A0 : Option Addr) (c0 : Nat) (l0 : List Int) (w : World) (hr0 : Kd.C (Kd.int .i64) w A0 l0.length l0) (hp : PredK Try.prog g lb one1 (Kd.int .i64) p w l0) :
    Calls Try.prog 32 #[.slice A0 l0.length c0, .func (.func g) #[] lb] w fun e w' => e = .returned (.bool (l0.any p)) ∧ Below w.heap.size w w' := by
  have HR := Aside0.mk hr0
  have HP := Aside0.mk hp
  clear hr0 hp
  have HA := Aside0.mk (idxOf_any p l0)
  go_enter Try.func32, Try.ntmps32
  go_wp2_with (go_at_call 35; (with_reducible refine (slices_IndexFunc_int_int.calls eg p A0 c0 l0 _ HR.out HP.out).mono ?_); rintro e w' ⟨rfl, hb⟩)
  go_ret
  exact ⟨by rw [← HA.out]; rfl, hb⟩


-- NOT PRINTED: function 33 (param_to_1)

/-! ### param_to: function 27 -/
-- by hand
theorem param_to.c1 (least most n : Int) (b1 b2 : Nat) (w : World) (h1 : w.cell? ⟨b1, 0, none⟩ = some (.int .i64 least)) (h2 : w.cell? ⟨b2, 0, none⟩ = some (.int .i64 most)) :
    Calls Try.prog 33 #[.int .i64 n, .pointer (some ⟨b1, 0, none⟩), .pointer (some ⟨b2, 0, none⟩)] w fun e w' => e = .returned (.bool (decide (n < least) || decide (n > most))) ∧ Below w.heap.size w w' := by
  by_cases c : n < least
  · have cb : decide (n < least) = true := decide_eq_true c
    clear c
    go_enter Try.func33, Try.ntmps33
    go_wp2
    repeat (go_quiet (fail); try go_wp2)
    go_ret
    exact ⟨by simp [cb], by repeat (first | exact Below.refl _ _ | apply pw_below_drewN)⟩
  · have cb : decide (n < least) = false := decide_eq_false c
    clear c
    go_enter Try.func33, Try.ntmps33
    go_wp2
    repeat (go_quiet (fail); try go_wp2)
    go_ret
    exact ⟨by simp [cb], by repeat (first | exact Below.refl _ _ | apply pw_below_drewN)⟩
def param_to.f (a0 a1 : Int) (l2 : List Int) : Option Bool := some (!(l2.any fun n => decide (n < a0) || decide (n > a1)))
theorem param_to.calls (a0 a1 : Int) (A2 : Option Addr) (c2 : Nat) (l2 : List Int) (r : Bool) (w : World) (hr2 : Kd.C (Kd.int .i64) w A2 l2.length l2) (hc2 : l2.length ≤ c2) (h : param_to.f a0 a1 l2 = some r) :
    Calls Try.prog 27 #[.int .i64 a0, .int .i64 a1, .slice A2 l2.length c2] w fun e w' => e = .returned (.bool r) ∧ Below w.heap.size w w' := by
  unfold param_to.f at h
  obtain rfl := Option.some.inj h
  clear h
  have HR2 := Aside0.mk hr2
  clear hr2
  have hb1 := (Below.refl w.heap.size w).alloc (Nat.le_refl _) (.cells #[.int .i64 a0] 3)
  have hb2 := hb1.alloc (by simp) (.cells #[.int .i64 a1] 3)
  have HB := Aside0.mk hb2
  have HP : Aside0 (PredK Try.prog 33 #[.pointer (some ⟨w.heap.size, 0, none⟩), .pointer (some ⟨w.heap.size + 1, 0, none⟩)] one1 (Kd.int .i64) (fun n => decide (n < a0) || decide (n > a1)) ((w.alloc (.cells #[.int .i64 a0] 3)).alloc (.cells #[.int .i64 a1] 3)) l2) := ⟨by
    intro x _ W cs hB hK
    obtain rfl : cs = [.int .i64 x] := hK
    exact param_to.c1 a0 a1 x w.heap.size (w.heap.size + 1) W ((hB.cell (p := ⟨w.heap.size, 0, none⟩) (by simp; omega)).trans (by go_simp)) ((hB.cell (p := ⟨w.heap.size + 1, 0, none⟩) (by simp)).trans (by go_simp))⟩
  clear hb1 hb2
  go_enter Try.func27, Try.ntmps27
  go_wp2_with fail
  go_at_call 32
  refine (slices_ContainsFunc_int_int.calls (enters_of Try.func33 (by kernel_rfl) rfl) _ A2 c2 l2 _ (Kd.C_below HR2.out HB.out) HP.out).mono ?_
  rintro e w' ⟨rfl, hb⟩
  go_wp2
  go_ret
  exact ⟨rfl, below_step HB.out hb⟩
theorem param_to.lit (a b : Int) (xs : List Int) (cs : List Value) (hcs : cs = nums .i64 xs) (n : Nat) (hn : xs.length = n) (hm : n ≤ 9223372036854775807) (W : World) (Hs : Nat) (hH : W.heap.size = Hs) :
    Calls Try.prog 27 #[.int .i64 a, .int .i64 b, .slice (some ⟨Hs, 0, none⟩) n n] (W.alloc (.cells cs.toArray 3)) fun e w' => e = .returned (.bool (inR a b xs)) ∧ Below W.heap.size W w' := by
  subst hn hH
  refine (param_to.calls a b _ xs.length xs _ _ (C_lit W 3 xs cs hcs hm) (Nat.le_refl _) rfl).mono ?_
  rintro e w' ⟨rfl, hb⟩
  exact ⟨rfl, below_step ((Below.refl _ W).alloc (Nat.le_refl _) _) hb⟩

/-! ### api_Line_34: function 34 -/
-- by hand
set_option maxHeartbeats 4000000 in
theorem api_Line_34.calls {g : Nat} {lb : Array Value} (eg : ∀ args w, (callFunc g args).run Try.prog w = .ok (.enter g args) w) (p : S47 → Bool) (A0 : Option Addr) (c0 : Nat) (l0 : List S47) (w : World) (hr0 : Kd.C k47 w A0 l0.length l0) (hp : PredK Try.prog g lb agg1 k47 p w l0) :
    Calls Try.prog 34 #[.slice A0 l0.length c0, .func (.func g) #[] lb] w fun e w' => e = .returned (.int .i64 (idxOf p l0)) ∧ Below w.heap.size w w' := by
  have hm := hr0.2.1
  have HR := Aside0.mk hr0
  have HP := Aside0.mk hp
  clear hr0 hp
  have hu := Try.underlying47
  go_enter Try.func34, Try.ntmps34
  go_wp2
  go_loopg [5, 8] l0.length (fun gg _ s8 wr => ∃ kk : Nat, kk ≤ l0.length ∧ l0.length - kk ≤ gg ∧ s8 = .int .i64 kk ∧ Aside0 (Below w.heap.size w wr) ∧ Aside0 (∀ x ∈ l0.take kk, p x = false))
  case atStart => exact ⟨0, Nat.zero_le _, by omega, rfl, ⟨Below.refl _ w⟩, ⟨fun x hx => by simp at hx⟩⟩
  case round =>
    obtain ⟨kk, hkk, hg, rfl, HB, HN⟩ := hrel
    by_cases hlt : kk < l0.length
    · have hltz : (kk : Int) < (l0.length : Int) := by omega
      obtain ⟨ad, c, rfl, hcl, hK, hc⟩ := C_elem (Kd.C_below HR.out HB.out) kk hlt
      have HC := Aside0.mk (HP.out l0[kk] (List.getElem_mem hlt) wr c HB.out hK)
      obtain ⟨e0, e1, rfl⟩ := list2 hcl
      have hcell0 : wr.cell? (ad.add (kk * 2)) = some e0 := hc 0 e0 rfl
      have hcell1 : wr.cell? ⟨(ad.add (kk * 2)).block, (ad.add (kk * 2)).off + 1, none⟩ = some e1 := cell_add1 (by decide) (hc 1 e1 rfl)
      replace HC : Aside0 (Calls Try.prog g (#[.agg #[e0, e1]] ++ lb) wr fun e w' => e = .returned (.bool (p l0[kk])) ∧ Below wr.heap.size wr w') := HC
      clear hc hcl hK
      have HX := Aside0.mk (show ∀ x ∈ l0.take kk, p x = false from HN.out)
      clear HN
      cases hq : p l0[kk] with
      | true =>
        have HQ := Aside0.mk hq
        rw [hq] at HC
        clear hq
        go_wp2_with (go_at_fn g; refine HC.out.mono ?_; rintro e w' ⟨rfl, hb'⟩)
        go_ret
        refine ⟨?_, below_step HB.out hb'⟩
        rw [idxOf_hit hlt HX.out HQ.out]
        rfl
      | false =>
        have HQ := Aside0.mk hq
        rw [hq] at HC
        clear hq
        go_wp2_with (go_at_fn g; refine HC.out.mono ?_; rintro e w' ⟨rfl, hb'⟩)
        go_roundg (l0.length - (kk + 1))
        case measure => omega
        case rel =>
          refine ⟨kk + 1, by omega, by omega, by go_num, ⟨below_step HB.out hb'⟩, ⟨fun x hx => ?_⟩⟩
          rw [List.take_succ_eq_append_getElem hlt] at hx
          rcases List.mem_append.1 hx with hx | hx
          · exact HX.out x hx
          · rw [List.mem_singleton.1 hx]; exact HQ.out
    · have HX := Aside0.mk (show ∀ x ∈ l0, p x = false from fun x hx => HN.out x (by rw [List.take_of_length_le (by omega)]; exact hx))
      have hge : decide ((kk : Int) < (l0.length : Int)) = false := decide_eq_false (by omega)
      have hge' : decide (kk < l0.length) = false := decide_eq_false hlt
      clear HN
      go_wp2
      go_ret
      exact ⟨by rw [idxOf_none HX.out]; rfl, HB.out⟩


/-! ### api_Line_28: function 28 -/
-- by hand
set_option maxHeartbeats 4000000 in
theorem api_Line_28.calls {g : Nat} {lb : Array Value} (eg : ∀ args w, (callFunc g args).run Try.prog w = .ok (.enter g args) w) (p : S47 → Bool) (A0 : Option Addr) (c0 : Nat) (l0 : List S47) (w : World) (hr0 : Kd.C k47 w A0 l0.length l0) (hp : PredK Try.prog g lb agg1 k47 p w l0) :
    Calls Try.prog 28 #[.slice A0 l0.length c0, .func (.func g) #[] lb] w fun e w' => e = .returned (.bool (l0.any p)) ∧ Below w.heap.size w w' := by
  have HR := Aside0.mk hr0
  have HP := Aside0.mk hp
  clear hr0 hp
  have HA := Aside0.mk (idxOf_any p l0)
  go_enter Try.func28, Try.ntmps28
  go_wp2_with (go_at_call 34; (with_reducible refine (api_Line_34.calls eg p A0 c0 l0 _ HR.out HP.out).mono ?_); rintro e w' ⟨rfl, hb⟩)
  go_ret
  exact ⟨by rw [← HA.out]; rfl, hb⟩



/-! ### param_Check_1: function 29 -/
def param_Check_1.f (a0_0 : Int) (a0_1 : Int) : Option (Bool) := (param_to.f 0 67108864 (([a0_0] : List Int))).bind fun t105 => (if t105 = true then ((param_to.f 1 67108864 (([a0_1] : List Int))).bind fun t109 => (some (!t109))) else (some true))
set_option maxHeartbeats 8000000 in
set_option maxRecDepth 100000 in
theorem param_Check_1.calls (a0_0 : Int) (a0_1 : Int) (r : Bool) (w : World) (h : param_Check_1.f a0_0 a0_1 = some r) :
    Calls Try.prog 29 #[.agg #[.int .i64 a0_0, .int .i64 a0_1]] w fun e w' => e = .returned (.bool r) ∧ Below w.heap.size w w' := by
  have hu47 := Try.underlying47
  have HB := Aside0.mk (Below.refl w.heap.size w)
  have H : ((param_to.f 0 67108864 (([a0_0] : List Int))).bind fun t105 => (if t105 = true then ((param_to.f 1 67108864 (([a0_1] : List Int))).bind fun t109 => (some (!t109))) else (some true))) = some r := h
  clear h
  obtain ⟨y102, hy102⟩ : ∃ y_ : List Int, y_ = (([a0_0] : List Int)) := ⟨_, rfl⟩
  replace H : ((param_to.f 0 67108864 y102).bind fun t105 => (if t105 = true then ((param_to.f 1 67108864 (([a0_1] : List Int))).bind fun t109 => (some (!t109))) else (some true))) = some r := by first | (rw [hy102]; with_reducible exact H) | (have H2_ := (Option.bind_some _ _).symm.trans H; rw [hy102]; with_reducible exact H2_) | (have H2_ := (Option.bind_some _ _).symm.trans H; with_reducible exact H2_) | with_reducible exact H | (rw [hy102]; exact H) | exact H
  have Ny102 := Aside0.mk hy102
  clear hy102
  replace H := Option.bind_eq_some_iff.mp H
  obtain ⟨t105, A20, H⟩ := H
  replace H : (if t105 = true then ((param_to.f 1 67108864 (([a0_1] : List Int))).bind fun t109 => (some (!t109))) else (some true)) = some r := H
  have A2 := Aside0.mk A20
  clear A20
  by_cases c3 : t105 = true
  · subst c3
    have H1 : ((param_to.f 1 67108864 (([a0_1] : List Int))).bind fun t109 => (some (!t109))) = some r := by rw [if_pos rfl] at H; exact H
    clear H
    have H := H1
    clear H1
    obtain ⟨y106, hy106⟩ : ∃ y_ : List Int, y_ = (([a0_1] : List Int)) := ⟨_, rfl⟩
    replace H : ((param_to.f 1 67108864 y106).bind fun t109 => (some (!t109))) = some r := by first | (rw [hy106]; with_reducible exact H) | (have H2_ := (Option.bind_some _ _).symm.trans H; rw [hy106]; with_reducible exact H2_) | (have H2_ := (Option.bind_some _ _).symm.trans H; with_reducible exact H2_) | with_reducible exact H | (rw [hy106]; exact H) | exact H
    have Ny106 := Aside0.mk hy106
    clear hy106
    replace H := Option.bind_eq_some_iff.mp H
    obtain ⟨t109, A40, H⟩ := H
    replace H : (some (!t109)) = some r := H
    have A4 := Aside0.mk A40
    clear A40
    obtain rfl := Option.some.inj H
    go_enter Try.func29, Try.ntmps29
    have tk_ : True := trivial
    go_wp2_with (first | ((with_reducible refine gate_dst (N := 1) rfl ?_); (try (refine gate_guard (by rfl) ?_; dsimp only)); refine box_event ?hg (N := 1) ?hd (cs := #[.int .i64 a0_0, .int .i64 a0_1]) (t := 47) ?hr ?_; (case hd => rfl); (case hg => rfl); (case hr => first | (go_simp; done) | (go_simp; rfl)); intro gb101 hg w5 hbox hb; have n0_ := Aside0.mk (below_step (by repeat (first | (with_reducible first | exact HB.out | apply below_alloc | apply pw_below_drewN | apply below_drew1) | exact HB.out)) hb); have n1_ := Aside0.mk (hbox); have n2_ := Aside0.mk ((by rw [hg]; exact (below_size (by repeat (first | (with_reducible first | exact HB.out | apply below_alloc | apply pw_below_drewN | apply below_drew1) | exact HB.out))) : w.heap.size ≤ gb101)); have n3_ := Aside0.mk ((by rw [hg]; exact (below_size (by repeat (first | (with_reducible first | exact HB.out | apply below_alloc | apply pw_below_drewN | apply below_drew1) | exact HB.out))) : w.heap.size ≤ gb101)); clear HB; have HB := n0_; have BK101 := n1_; have GW101 := n2_; have GE101 := n3_; clear n0_ n1_ n2_ n3_; clear hb hbox hg; have hcz6_0 : w5.cell? ⟨gb101, 0, none⟩ = some (.int .i64 a0_0) := (blk_cell BK101.out 0).trans rfl; have hcz6_1 : w5.cell? ⟨gb101, 1, none⟩ = some (.int .i64 a0_1) := (blk_cell BK101.out 1).trans rfl; have hfz6_0 := blk_frozen BK101.out 0; have hfz6_1 := blk_frozen BK101.out 1) | ((with_reducible refine gate_dst (N := 5) rfl ?_); (try (refine gate_guard (by rfl) ?_; dsimp only)); refine Kd.R_lit (Kd.int .i64) _ 3 ?hg (N := 5) ?hd (xs := ([a0_0] : List Int)) (inner := [.int .i64 a0_0]) (ok := fun _ => True) (okp := fun _ => True) ?hr ?hp (fun _ hk => hk) trivial (Below.refl _ _) (Nat.le_refl _) (by simp) ?_; (case hd => rfl); (case hg => rfl); (case hr => first | (go_simp; done) | (go_simp; rfl)); (case hp => exact (Reps.one (show Kd.M (Kd.int .i64) _ _ _ a0_0 [.int .i64 a0_0] from rfl) (Reps.none _ _))); intro v103 w7 ho8 hb hg_ hnew_; clear hg_ hnew_; (first | rw [← Ny102.out] at ho8 | (simp only [Int.reduceToNat] at ho8; rw [← Ny102.out] at ho8)); have n0_ := Aside0.mk (Kd.R_lower ho8 (below_size (by repeat (first | (with_reducible first | exact HB.out | apply below_alloc | apply pw_below_drewN | apply below_drew1 | refine below_set ?_ GE101.out) | exact HB.out)))); have n1_ := Aside0.mk (blk_below (g := gb101) (o := .cells #[.int .i64 a0_0, .int .i64 a0_1] 47 (0, 0)) (by (with_reducible repeat (first | refine blk_drewN ?_ _ | refine blk_drew ?_ | refine blk_alloc ?_ _)); exact BK101.out) hb); have n2_ := Aside0.mk (below_step (by repeat (first | (with_reducible first | exact HB.out | apply below_alloc | apply pw_below_drewN | apply below_drew1 | refine below_set ?_ GE101.out) | exact HB.out)) hb); clear BK101; clear HB; have HO104 := n0_; have BK101 := n1_; have HB := n2_; clear n0_ n1_ n2_; clear hb ho8; obtain ⟨Ao9, co9, eo9⟩ := Kd.R_slice HO104.out; subst eo9) | (go_at_call 27; clear tk_; (with_reducible refine (param_to.calls 0 67108864 _ _ y102 true _ ?side1 ?side2 A2.out).mono ?_); (case side1 => repeat (first | exact (Kd.R_reads' HO104.out).2.2 | (with_reducible refine Kd.C_alloc ?_ _) | (with_reducible refine Kd.C_drewN ?_ _) | (with_reducible refine Kd.C_drew ?_))); (case side2 => exact (Kd.R_reads' HO104.out).2.1); rintro e w10 ⟨rfl, hb⟩; have n0_ := Aside0.mk (Kd.R_below (by (with_reducible repeat (first | apply Kd.R_alloc | apply Kd.R_drewN | apply Kd.R_drew)); exact HO104.out) hb); have n1_ := Aside0.mk (blk_below (g := gb101) (o := .cells #[.int .i64 a0_0, .int .i64 a0_1] 47 (0, 0)) (by (with_reducible repeat (first | refine blk_drewN ?_ _ | refine blk_drew ?_ | refine blk_alloc ?_ _)); exact BK101.out) hb); have n2_ := Aside0.mk (below_step (by repeat (first | (with_reducible first | exact HB.out | apply below_alloc | apply pw_below_drewN | apply below_drew1 | refine below_set ?_ GE101.out) | exact HB.out)) hb); clear HO104; clear BK101; clear HB; have HO104 := n0_; have BK101 := n1_; have HB := n2_; clear n0_ n1_ n2_; (try clear hb); (try clear hb2); (try clear hk); (try clear hi); have hcz11_0 : w10.cell? ⟨gb101, 0, none⟩ = some (.int .i64 a0_0) := (blk_cell BK101.out 0).trans rfl; have hcz11_1 : w10.cell? ⟨gb101, 1, none⟩ = some (.int .i64 a0_1) := (blk_cell BK101.out 1).trans rfl; have hfz11_0 := blk_frozen BK101.out 0; have hfz11_1 := blk_frozen BK101.out 1) | ((with_reducible refine gate_dst (N := 11) rfl ?_); (try (refine gate_guard (by rfl) ?_; dsimp only)); refine Kd.R_lit (Kd.int .i64) _ 3 ?hg (N := 11) ?hd (xs := ([a0_1] : List Int)) (inner := [.int .i64 a0_1]) (ok := fun _ => True) (okp := fun _ => True) ?hr ?hp (fun _ hk => hk) trivial (Below.refl _ _) (Nat.le_refl _) (by simp) ?_; (case hd => rfl); (case hg => rfl); (case hr => first | (go_simp; done) | (go_simp; rfl)); (case hp => exact (Reps.one (show Kd.M (Kd.int .i64) _ _ _ a0_1 [.int .i64 a0_1] from rfl) (Reps.none _ _))); intro v107 w12 ho13 hb hg_ hnew_; clear hg_ hnew_; (first | rw [← Ny106.out] at ho13 | (simp only [Int.reduceToNat] at ho13; rw [← Ny106.out] at ho13)); have n0_ := Aside0.mk (Kd.R_elder' (by (with_reducible repeat (first | apply Kd.R_alloc | apply Kd.R_drewN | apply Kd.R_drew)); exact HO104.out) (Kd.R_base ho13) hb); have n1_ := Aside0.mk (Kd.R_lower (Kd.R_new' ho13 (Kd.R_lt (by (with_reducible repeat (first | apply Kd.R_alloc | apply Kd.R_drewN | apply Kd.R_drew)); exact HO104.out))) (below_size (by repeat (first | (with_reducible first | exact HB.out | apply below_alloc | apply pw_below_drewN | apply below_drew1 | refine below_set ?_ GE101.out) | exact HB.out)))); have n2_ := Aside0.mk (blk_below (g := gb101) (o := .cells #[.int .i64 a0_0, .int .i64 a0_1] 47 (0, 0)) (by (with_reducible repeat (first | refine blk_drewN ?_ _ | refine blk_drew ?_ | refine blk_alloc ?_ _)); exact BK101.out) hb); have n3_ := Aside0.mk (below_step (by repeat (first | (with_reducible first | exact HB.out | apply below_alloc | apply pw_below_drewN | apply below_drew1 | refine below_set ?_ GE101.out) | exact HB.out)) hb); clear HO104; clear BK101; clear HB; have HO104 := n0_; have HO108 := n1_; have BK101 := n2_; have HB := n3_; clear n0_ n1_ n2_ n3_; clear hb ho13; obtain ⟨Ao14, co14, eo14⟩ := Kd.R_slice HO108.out; subst eo14))
    as_aux_lemma =>
    have tk_ : True := trivial
    go_wp2_with (first | (go_at_call 27; clear tk_; (with_reducible refine (param_to.calls 1 67108864 _ _ y106 t109 _ ?side1 ?side2 A4.out).mono ?_); (case side1 => repeat (first | exact (Kd.R_reads' HO108.out).2.2 | (with_reducible refine Kd.C_alloc ?_ _) | (with_reducible refine Kd.C_drewN ?_ _) | (with_reducible refine Kd.C_drew ?_))); (case side2 => exact (Kd.R_reads' HO108.out).2.1); rintro e w15 ⟨rfl, hb⟩; have n0_ := Aside0.mk (Kd.R_below (by (with_reducible repeat (first | apply Kd.R_alloc | apply Kd.R_drewN | apply Kd.R_drew)); exact HO104.out) hb); have n1_ := Aside0.mk (Kd.R_below (by (with_reducible repeat (first | apply Kd.R_alloc | apply Kd.R_drewN | apply Kd.R_drew)); exact HO108.out) hb); have n2_ := Aside0.mk (blk_below (g := gb101) (o := .cells #[.int .i64 a0_0, .int .i64 a0_1] 47 (0, 0)) (by (with_reducible repeat (first | refine blk_drewN ?_ _ | refine blk_drew ?_ | refine blk_alloc ?_ _)); exact BK101.out) hb); have n3_ := Aside0.mk (below_step (by repeat (first | (with_reducible first | exact HB.out | apply below_alloc | apply pw_below_drewN | apply below_drew1 | refine below_set ?_ GE101.out) | exact HB.out)) hb); clear HO104; clear HO108; clear BK101; clear HB; have HO104 := n0_; have HO108 := n1_; have BK101 := n2_; have HB := n3_; clear n0_ n1_ n2_ n3_; (try clear hb); (try clear hb2); (try clear hk); (try clear hi)))
    go_ret
    exact ⟨by first | rfl | (simp [errW_none, errW_some] <;> rfl) | (simp [*, errW_none, errW_some] <;> rfl), by repeat (first | (with_reducible first | exact HB.out | apply below_alloc | apply pw_below_drewN | apply below_drew1 | refine below_set ?_ GE101.out) | exact HB.out)⟩
  · replace c3 := Bool.eq_false_iff.mpr c3
    subst c3
    have H1 : (some true) = some r := by rw [if_neg (show ¬ (false = true) by decide)] at H; exact H
    clear H
    have H := H1
    clear H1
    obtain rfl := Option.some.inj H
    go_enter Try.func29, Try.ntmps29
    go_wp2_with (first | ((with_reducible refine gate_dst (N := 1) rfl ?_); (try (refine gate_guard (by rfl) ?_; dsimp only)); refine box_event ?hg (N := 1) ?hd (cs := #[.int .i64 a0_0, .int .i64 a0_1]) (t := 47) ?hr ?_; (case hd => rfl); (case hg => rfl); (case hr => first | (go_simp; done) | (go_simp; rfl)); intro gb101 hg w16 hbox hb; have n0_ := Aside0.mk (below_step (by repeat (first | (with_reducible first | exact HB.out | apply below_alloc | apply pw_below_drewN | apply below_drew1) | exact HB.out)) hb); have n1_ := Aside0.mk (hbox); have n2_ := Aside0.mk ((by rw [hg]; exact (below_size (by repeat (first | (with_reducible first | exact HB.out | apply below_alloc | apply pw_below_drewN | apply below_drew1) | exact HB.out))) : w.heap.size ≤ gb101)); have n3_ := Aside0.mk ((by rw [hg]; exact (below_size (by repeat (first | (with_reducible first | exact HB.out | apply below_alloc | apply pw_below_drewN | apply below_drew1) | exact HB.out))) : w.heap.size ≤ gb101)); clear HB; have HB := n0_; have BK101 := n1_; have GW101 := n2_; have GE101 := n3_; clear n0_ n1_ n2_ n3_; clear hb hbox hg; have hcz17_0 : w16.cell? ⟨gb101, 0, none⟩ = some (.int .i64 a0_0) := (blk_cell BK101.out 0).trans rfl; have hcz17_1 : w16.cell? ⟨gb101, 1, none⟩ = some (.int .i64 a0_1) := (blk_cell BK101.out 1).trans rfl; have hfz17_0 := blk_frozen BK101.out 0; have hfz17_1 := blk_frozen BK101.out 1) | ((with_reducible refine gate_dst (N := 5) rfl ?_); (try (refine gate_guard (by rfl) ?_; dsimp only)); refine Kd.R_lit (Kd.int .i64) _ 3 ?hg (N := 5) ?hd (xs := ([a0_0] : List Int)) (inner := [.int .i64 a0_0]) (ok := fun _ => True) (okp := fun _ => True) ?hr ?hp (fun _ hk => hk) trivial (Below.refl _ _) (Nat.le_refl _) (by simp) ?_; (case hd => rfl); (case hg => rfl); (case hr => first | (go_simp; done) | (go_simp; rfl)); (case hp => exact (Reps.one (show Kd.M (Kd.int .i64) _ _ _ a0_0 [.int .i64 a0_0] from rfl) (Reps.none _ _))); intro v103 w18 ho19 hb hg_ hnew_; clear hg_ hnew_; (first | rw [← Ny102.out] at ho19 | (simp only [Int.reduceToNat] at ho19; rw [← Ny102.out] at ho19)); have n0_ := Aside0.mk (Kd.R_lower ho19 (below_size (by repeat (first | (with_reducible first | exact HB.out | apply below_alloc | apply pw_below_drewN | apply below_drew1 | refine below_set ?_ GE101.out) | exact HB.out)))); have n1_ := Aside0.mk (blk_below (g := gb101) (o := .cells #[.int .i64 a0_0, .int .i64 a0_1] 47 (0, 0)) (by (with_reducible repeat (first | refine blk_drewN ?_ _ | refine blk_drew ?_ | refine blk_alloc ?_ _)); exact BK101.out) hb); have n2_ := Aside0.mk (below_step (by repeat (first | (with_reducible first | exact HB.out | apply below_alloc | apply pw_below_drewN | apply below_drew1 | refine below_set ?_ GE101.out) | exact HB.out)) hb); clear BK101; clear HB; have HO104 := n0_; have BK101 := n1_; have HB := n2_; clear n0_ n1_ n2_; clear hb ho19; obtain ⟨Ao20, co20, eo20⟩ := Kd.R_slice HO104.out; subst eo20) | ((with_reducible refine gate_callee (f := 27) rfl ?_); refine goesL_ (some 6) rfl rfl Try.func27 (by kernel_rfl) rfl #[.int .i64 0, .int .i64 67108864, .slice Ao20 y102.length co20] rfl (by (try simp only [List.map_toArray, List.map_cons, List.map_nil]); first | done | rfl | (simp only [List.length_drop, List.length_take]; rfl)) ?_; (with_reducible refine (param_to.calls 0 67108864 _ _ y102 false _ ?side1 ?side2 A2.out).mono ?_); (case side1 => repeat (first | exact (Kd.R_reads' HO104.out).2.2 | (with_reducible refine Kd.C_alloc ?_ _) | (with_reducible refine Kd.C_drewN ?_ _) | (with_reducible refine Kd.C_drew ?_))); (case side2 => exact (Kd.R_reads' HO104.out).2.1); rintro e w21 ⟨rfl, hb⟩; refine ⟨_, rfl, ?_⟩; have n0_ := Aside0.mk (Kd.R_below (by (with_reducible repeat (first | apply Kd.R_alloc | apply Kd.R_drewN | apply Kd.R_drew)); exact HO104.out) hb); have n1_ := Aside0.mk (blk_below (g := gb101) (o := .cells #[.int .i64 a0_0, .int .i64 a0_1] 47 (0, 0)) (by (with_reducible repeat (first | refine blk_drewN ?_ _ | refine blk_drew ?_ | refine blk_alloc ?_ _)); exact BK101.out) hb); have n2_ := Aside0.mk (below_step (by repeat (first | (with_reducible first | exact HB.out | apply below_alloc | apply pw_below_drewN | apply below_drew1 | refine below_set ?_ GE101.out) | exact HB.out)) hb); clear HO104; clear BK101; clear HB; have HO104 := n0_; have BK101 := n1_; have HB := n2_; clear n0_ n1_ n2_; (try clear hb); (try clear hb2); (try clear hk); (try clear hi)))
    go_ret
    exact ⟨by first | rfl | (simp [errW_none, errW_some] <;> rfl) | (simp [*, errW_none, errW_some] <;> rfl), by repeat (first | (with_reducible first | exact HB.out | apply below_alloc | apply pw_below_drewN | apply below_drew1 | refine below_set ?_ GE101.out) | exact HB.out)⟩

/-! ### param_Check: function 17 -/
-- by hand
theorem param_Check.pred (w : World) (l : List (S47)) : PredK Try.prog 29 #[] agg1 k47 (fun x => !inR 0 67108864 [x.f0] || !inR 1 67108864 [x.f1]) w l := by
  intro x _ W cs _ hK
  obtain rfl := k47_open hK
  have e : param_Check_1.f x.f0 x.f1 = some (!inR 0 67108864 [x.f0] || !inR 1 67108864 [x.f1]) := by
    have h1 : ∀ a b l, param_to.f a b l = some (inR a b l) := fun _ _ _ => rfl
    simp only [param_Check_1.f, h1, Option.bind_some]
    cases inR 0 67108864 [x.f0] <;> simp
  exact (param_Check_1.calls _ _ _ W e).mono (fun e w' ⟨he, hw⟩ => ⟨he, hw⟩)
def param_Check.f (a0_0 a0_1 a0_2 a0_3 : Int) (l0_4 : List (S47)) (a0_5 a0_6 a0_7 a0_8 a0_9 a0_10 a0_11 a0_12 a0_13 a0_14 a0_15 a0_16 a0_17 a0_18 a0_19 a0_20 : Int) : Option Bool :=
  some (inR 1 67108864 [a0_0] && (inR 0 4194304 [a0_1, a0_2, a0_3] && (!decide ((40 : Int) < (l0_4.length : Int)) && (inR (wrap64 (1 - a0_0)) (wrap64 (a0_0 - 1)) [a0_5] && (inR (-100) 100 [a0_6] && (inR 0 40 [a0_7, a0_8] && (inR (-1) 10000 [a0_9] && (inR 0 10000 [a0_10] && (inR 0 67108864 [a0_11] && (inR 0 1000 [a0_12] && (inR (-1000) 1000 [a0_13, a0_14] && (inR (-5) 5 [a0_20] && (inR 0 10000 [a0_15, a0_16, a0_17, a0_18, a0_19] && !(l0_4.any fun x => !inR 0 67108864 [x.f0] || !inR 1 67108864 [x.f1]))))))))))))))
set_option maxHeartbeats 4000000 in
set_option maxRecDepth 100000 in
theorem param_Check.calls (a0_0 a0_1 a0_2 a0_3 : Int) (A0_4 : Option Addr) (c0_4 : Nat) (l0_4 : List (S47)) (a0_5 a0_6 a0_7 a0_8 a0_9 a0_10 a0_11 a0_12 a0_13 a0_14 a0_15 a0_16 a0_17 a0_18 a0_19 a0_20 : Int) (r : Bool) (w : World) (hr0_4 : Kd.C k47 w A0_4 l0_4.length l0_4) (hc0_4 : l0_4.length ≤ c0_4) (h : param_Check.f a0_0 a0_1 a0_2 a0_3 l0_4 a0_5 a0_6 a0_7 a0_8 a0_9 a0_10 a0_11 a0_12 a0_13 a0_14 a0_15 a0_16 a0_17 a0_18 a0_19 a0_20 = some r) :
    Calls Try.prog 17 #[.agg #[.int .i64 a0_0, .int .i64 a0_1, .int .i64 a0_2, .int .i64 a0_3, .slice A0_4 l0_4.length c0_4, .int .i64 a0_5, .int .i64 a0_6, .int .i64 a0_7, .int .i64 a0_8, .int .i64 a0_9, .int .i64 a0_10, .int .i64 a0_11, .int .i64 a0_12, .int .i64 a0_13, .int .i64 a0_14, .int .i64 a0_15, .int .i64 a0_16, .int .i64 a0_17, .int .i64 a0_18, .int .i64 a0_19, .int .i64 a0_20]] w fun e w' => e = .returned (.bool r) ∧ Below w.heap.size w w' := by
  have hm := hr0_4.2.1
  have HR := Aside0.mk hr0_4
  clear hr0_4 hc0_4
  have H := Aside0.mk (Option.some.inj h).symm
  clear h
  have hu := Try.underlying24
  have L0 := Aside0.mk (fun (W : World) (Hs : Nat) (hH : W.heap.size = Hs) => param_to.lit 1 67108864 [a0_0] [.int .i64 a0_0] rfl 1 rfl (by decide) W Hs hH)
  have L1 := Aside0.mk (fun (W : World) (Hs : Nat) (hH : W.heap.size = Hs) => param_to.lit 0 4194304 [a0_1, a0_2, a0_3] [.int .i64 a0_1, .int .i64 a0_2, .int .i64 a0_3] rfl 3 rfl (by decide) W Hs hH)
  have L2 := Aside0.mk (fun (W : World) (Hs : Nat) (hH : W.heap.size = Hs) => param_to.lit (wrap64 (1 - a0_0)) (wrap64 (a0_0 - 1)) [a0_5] [.int .i64 a0_5] rfl 1 rfl (by decide) W Hs hH)
  have L3 := Aside0.mk (fun (W : World) (Hs : Nat) (hH : W.heap.size = Hs) => param_to.lit (-100) 100 [a0_6] [.int .i64 a0_6] rfl 1 rfl (by decide) W Hs hH)
  have L4 := Aside0.mk (fun (W : World) (Hs : Nat) (hH : W.heap.size = Hs) => param_to.lit 0 40 [a0_7, a0_8] [.int .i64 a0_7, .int .i64 a0_8] rfl 2 rfl (by decide) W Hs hH)
  have L5 := Aside0.mk (fun (W : World) (Hs : Nat) (hH : W.heap.size = Hs) => param_to.lit (-1) 10000 [a0_9] [.int .i64 a0_9] rfl 1 rfl (by decide) W Hs hH)
  have L6 := Aside0.mk (fun (W : World) (Hs : Nat) (hH : W.heap.size = Hs) => param_to.lit 0 10000 [a0_10] [.int .i64 a0_10] rfl 1 rfl (by decide) W Hs hH)
  have L7 := Aside0.mk (fun (W : World) (Hs : Nat) (hH : W.heap.size = Hs) => param_to.lit 0 67108864 [a0_11] [.int .i64 a0_11] rfl 1 rfl (by decide) W Hs hH)
  have L8 := Aside0.mk (fun (W : World) (Hs : Nat) (hH : W.heap.size = Hs) => param_to.lit 0 1000 [a0_12] [.int .i64 a0_12] rfl 1 rfl (by decide) W Hs hH)
  have L9 := Aside0.mk (fun (W : World) (Hs : Nat) (hH : W.heap.size = Hs) => param_to.lit (-1000) 1000 [a0_13, a0_14] [.int .i64 a0_13, .int .i64 a0_14] rfl 2 rfl (by decide) W Hs hH)
  have L10 := Aside0.mk (fun (W : World) (Hs : Nat) (hH : W.heap.size = Hs) => param_to.lit (-5) 5 [a0_20] [.int .i64 a0_20] rfl 1 rfl (by decide) W Hs hH)
  have L11 := Aside0.mk (fun (W : World) (Hs : Nat) (hH : W.heap.size = Hs) => param_to.lit 0 10000 [a0_15, a0_16, a0_17, a0_18, a0_19] [.int .i64 a0_15, .int .i64 a0_16, .int .i64 a0_17, .int .i64 a0_18, .int .i64 a0_19] rfl 5 rfl (by decide) W Hs hH)
  have LS := Aside0.mk (fun (W : World) (hB : Below (w.heap.size + 1) (w.alloc (.cells #[.int .i64 a0_0, .int .i64 a0_1, .int .i64 a0_2, .int .i64 a0_3, .slice A0_4 l0_4.length c0_4, .int .i64 a0_5, .int .i64 a0_6, .int .i64 a0_7, .int .i64 a0_8, .int .i64 a0_9, .int .i64 a0_10, .int .i64 a0_11, .int .i64 a0_12, .int .i64 a0_13, .int .i64 a0_14, .int .i64 a0_15, .int .i64 a0_16, .int .i64 a0_17, .int .i64 a0_18, .int .i64 a0_19, .int .i64 a0_20] 24)) W) => api_Line_28.calls (enters_of Try.func29 (by kernel_rfl) rfl) (fun x => !inR 0 67108864 [x.f0] || !inR 1 67108864 [x.f1]) A0_4 c0_4 l0_4 W (Kd.C_below HR.out (((Below.refl _ w).alloc (Nat.le_refl _) _).trans (hB.mono (Nat.le_succ _)))) (param_Check.pred W l0_4))
  have HB := Aside0.mk (Below.refl (w.heap.size + 1) (w.alloc (.cells #[.int .i64 a0_0, .int .i64 a0_1, .int .i64 a0_2, .int .i64 a0_3, .slice A0_4 l0_4.length c0_4, .int .i64 a0_5, .int .i64 a0_6, .int .i64 a0_7, .int .i64 a0_8, .int .i64 a0_9, .int .i64 a0_10, .int .i64 a0_11, .int .i64 a0_12, .int .i64 a0_13, .int .i64 a0_14, .int .i64 a0_15, .int .i64 a0_16, .int .i64 a0_17, .int .i64 a0_18, .int .i64 a0_19, .int .i64 a0_20] 24)))
  go_enter Try.func17, Try.ntmps17
  go_wp2_with (first | (go_at_call 27; (with_reducible refine (L0.out _ _ ?sz0).mono ?_); (case sz0 => first | rfl | (simp; done) | (simp; omega)); rintro e w0 ⟨rfl, hb⟩; have n0_ := Aside0.mk (HB.out.trans (hb.mono (le_of_size HB.out))); clear HB; have HB := n0_; clear n0_; have hx0 := fun o : Nat => HB.out.cell (p := ⟨w.heap.size, o, none⟩) (Nat.lt_succ_self _); clear hb L0) | (go_at_call 27; (with_reducible refine (L1.out _ _ ?sz1).mono ?_); (case sz1 => first | rfl | (simp; done) | (simp; omega)); rintro e w1 ⟨rfl, hb⟩; have n0_ := Aside0.mk (HB.out.trans (hb.mono (le_of_size HB.out))); clear HB; have HB := n0_; clear n0_; have hx1 := fun o : Nat => HB.out.cell (p := ⟨w.heap.size, o, none⟩) (Nat.lt_succ_self _); clear hb L1) | (go_at_call 27; (with_reducible refine (L2.out _ _ ?sz2).mono ?_); (case sz2 => first | rfl | (simp; done) | (simp; omega)); rintro e w2 ⟨rfl, hb⟩; have n0_ := Aside0.mk (HB.out.trans (hb.mono (le_of_size HB.out))); clear HB; have HB := n0_; clear n0_; have hx2 := fun o : Nat => HB.out.cell (p := ⟨w.heap.size, o, none⟩) (Nat.lt_succ_self _); clear hb L2) | (go_at_call 27; (with_reducible refine (L3.out _ _ ?sz3).mono ?_); (case sz3 => first | rfl | (simp; done) | (simp; omega)); rintro e w3 ⟨rfl, hb⟩; have n0_ := Aside0.mk (HB.out.trans (hb.mono (le_of_size HB.out))); clear HB; have HB := n0_; clear n0_; have hx3 := fun o : Nat => HB.out.cell (p := ⟨w.heap.size, o, none⟩) (Nat.lt_succ_self _); clear hb L3) | (go_at_call 27; (with_reducible refine (L4.out _ _ ?sz4).mono ?_); (case sz4 => first | rfl | (simp; done) | (simp; omega)); rintro e w4 ⟨rfl, hb⟩; have n0_ := Aside0.mk (HB.out.trans (hb.mono (le_of_size HB.out))); clear HB; have HB := n0_; clear n0_; have hx4 := fun o : Nat => HB.out.cell (p := ⟨w.heap.size, o, none⟩) (Nat.lt_succ_self _); clear hb L4) | (go_at_call 27; (with_reducible refine (L5.out _ _ ?sz5).mono ?_); (case sz5 => first | rfl | (simp; done) | (simp; omega)); rintro e w5 ⟨rfl, hb⟩; have n0_ := Aside0.mk (HB.out.trans (hb.mono (le_of_size HB.out))); clear HB; have HB := n0_; clear n0_; have hx5 := fun o : Nat => HB.out.cell (p := ⟨w.heap.size, o, none⟩) (Nat.lt_succ_self _); clear hb L5) | (go_at_call 27; (with_reducible refine (L6.out _ _ ?sz6).mono ?_); (case sz6 => first | rfl | (simp; done) | (simp; omega)); rintro e w6 ⟨rfl, hb⟩; have n0_ := Aside0.mk (HB.out.trans (hb.mono (le_of_size HB.out))); clear HB; have HB := n0_; clear n0_; have hx6 := fun o : Nat => HB.out.cell (p := ⟨w.heap.size, o, none⟩) (Nat.lt_succ_self _); clear hb L6) | (go_at_call 27; (with_reducible refine (L7.out _ _ ?sz7).mono ?_); (case sz7 => first | rfl | (simp; done) | (simp; omega)); rintro e w7 ⟨rfl, hb⟩; have n0_ := Aside0.mk (HB.out.trans (hb.mono (le_of_size HB.out))); clear HB; have HB := n0_; clear n0_; have hx7 := fun o : Nat => HB.out.cell (p := ⟨w.heap.size, o, none⟩) (Nat.lt_succ_self _); clear hb L7) | (go_at_call 27; (with_reducible refine (L8.out _ _ ?sz8).mono ?_); (case sz8 => first | rfl | (simp; done) | (simp; omega)); rintro e w8 ⟨rfl, hb⟩; have n0_ := Aside0.mk (HB.out.trans (hb.mono (le_of_size HB.out))); clear HB; have HB := n0_; clear n0_; have hx8 := fun o : Nat => HB.out.cell (p := ⟨w.heap.size, o, none⟩) (Nat.lt_succ_self _); clear hb L8) | (go_at_call 27; (with_reducible refine (L9.out _ _ ?sz9).mono ?_); (case sz9 => first | rfl | (simp; done) | (simp; omega)); rintro e w9 ⟨rfl, hb⟩; have n0_ := Aside0.mk (HB.out.trans (hb.mono (le_of_size HB.out))); clear HB; have HB := n0_; clear n0_; have hx9 := fun o : Nat => HB.out.cell (p := ⟨w.heap.size, o, none⟩) (Nat.lt_succ_self _); clear hb L9) | (go_at_call 27; (with_reducible refine (L10.out _ _ ?sz10).mono ?_); (case sz10 => first | rfl | (simp; done) | (simp; omega)); rintro e w10 ⟨rfl, hb⟩; have n0_ := Aside0.mk (HB.out.trans (hb.mono (le_of_size HB.out))); clear HB; have HB := n0_; clear n0_; have hx10 := fun o : Nat => HB.out.cell (p := ⟨w.heap.size, o, none⟩) (Nat.lt_succ_self _); clear hb L10) | (go_at_call 27; (with_reducible refine (L11.out _ _ ?sz11).mono ?_); (case sz11 => first | rfl | (simp; done) | (simp; omega)); rintro e w11 ⟨rfl, hb⟩; have n0_ := Aside0.mk (HB.out.trans (hb.mono (le_of_size HB.out))); clear HB; have HB := n0_; clear n0_; have hx11 := fun o : Nat => HB.out.cell (p := ⟨w.heap.size, o, none⟩) (Nat.lt_succ_self _); clear hb L11) | (go_at_call 28; (with_reducible refine (LS.out _ ?cb).mono ?_); (case cb => exact HB.out); rintro e wz ⟨rfl, hb⟩; have n0_ := Aside0.mk (HB.out.trans (hb.mono (le_of_size HB.out))); clear HB; have HB := n0_; clear n0_ hb LS))
  all_goals (go_ret; refine ⟨?_, ((Below.refl _ w).alloc (Nat.le_refl _) _).trans (HB.out.mono (Nat.le_succ _))⟩; rw [H.out]; clear HR H HB hx0; (try simp only [Bool.not_eq_eq_eq_not, Bool.not_true, Bool.not_false] at *); first | (simp [*]; done) | (simp [*]; omega))


/-! ### dem_square: function 18 -/
def dem_square.f (a0 : Int) : Option (Int) := some (wrap64 (a0 * (mx a0 (wrap64 (-a0)))))
set_option maxHeartbeats 8000000 in
set_option maxRecDepth 100000 in
theorem dem_square.calls (a0 : Int) (r : Int) (w : World) (h : dem_square.f a0 = some r) :
    Calls Try.prog 18 #[.int .i64 a0] w fun e w' => e = .returned (.int .i64 r) ∧ Below w.heap.size w w' := by
  have HB := Aside0.mk (Below.refl w.heap.size w)
  have H : (some (wrap64 (a0 * (mx a0 (wrap64 (-a0)))))) = some r := h
  clear h
  obtain ⟨ji2, hji2⟩ : ∃ j_ : Int, (mx a0 (wrap64 (-a0))) = j_ := ⟨_, rfl⟩
  replace H : (some (wrap64 (a0 * (ji2)))) = some r := by first | (rw [hji2] at H; exact H) | (simp only [hji2] at H ⊢; exact H)
  have hji2_ : (if a0 < (wrap64 (-a0)) then (wrap64 (-a0)) else a0) = ji2 := hji2
  obtain rfl := Option.some.inj H
  go_enter Try.func18, Try.ntmps18
  go_wp2
  go_ret
  exact ⟨by first | rfl | (simp [errW_none, errW_some] <;> rfl) | (simp only [← hji2]; first | rfl | (simp [errW_none, errW_some] <;> rfl)) | (simp [*, errW_none, errW_some] <;> rfl), by repeat (first | (with_reducible first | exact HB.out | apply below_alloc | apply pw_below_drewN | apply below_drew1) | exact HB.out)⟩

end Go.Proofs.Ytejpnfaaboicdaa.G
