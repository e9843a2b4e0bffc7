/- Contracts of the functions of this seat: what each call computes, as a plain Lean function. Made by this session's own generator. -/
import Derived.Test.YtpijgpjoobffoaaGx0
import Derived.Test.YtpijgpjoobffoaaGx3
import Derived.Test.YtpijgpjoobffoaaGx4
namespace Go.Proofs.Ytpijgpjoobffoaa.G
open Go.RowKit Go.Proofs.YtpijgpjoobffoaaMy Go.Proofs.YtpijgpjoobffoaaW.PrintWords Go.Proofs.YtpijgpjoobffoaaW.PrintLast Go.Proofs.YtpijgpjoobffoaaW.PrintMore
attribute [local go_sem] max2_int min2_int max_two min_two max_three min_three max_four min_four   -- for this text's walks alone
set_option linter.unusedVariables false
set_option linter.unusedSimpArgs false

/-! ### tfm_Check_1: function 28 -/
-- by hand
def tfm_Check_1.f (k : Nat) (a0_0 : Int) (a0_1 : Int) (a0_2 : Int) (a0_3 : Int) (a0_4 : Int) (a0_5 : Int) (a1_0 : Int) (a1_1 : Int) (a1_2 : Int) (l1_3 : List S42) (l1_4 : List Int) (l1_5 : List Int) (l1_6 : List Int) (l1_7 : List Int) (l1_8 : List S51) (l1_9 : List Int) (l1_10 : List Int) : Option Bool := (tfm_char.f k a1_0 a1_1 a1_2 l1_3 l1_4 l1_5 l1_6 l1_7 l1_8 l1_9 l1_10 a0_0 a0_1 a0_2 a0_3 a0_4 a0_5).bind fun t => some (!t)
theorem tfm_Check_1.mono : ∀ a0_0 a0_1 a0_2 a0_3 a0_4 a0_5 a1_0 a1_1 a1_2 l1_3 l1_4 l1_5 l1_6 l1_7 l1_8 l1_9 l1_10 k, LeO (tfm_Check_1.f k a0_0 a0_1 a0_2 a0_3 a0_4 a0_5 a1_0 a1_1 a1_2 l1_3 l1_4 l1_5 l1_6 l1_7 l1_8 l1_9 l1_10) (tfm_Check_1.f (k + 1) a0_0 a0_1 a0_2 a0_3 a0_4 a0_5 a1_0 a1_1 a1_2 l1_3 l1_4 l1_5 l1_6 l1_7 l1_8 l1_9 l1_10) := by
 intro a0_0 a0_1 a0_2 a0_3 a0_4 a0_5 a1_0 a1_1 a1_2 l1_3 l1_4 l1_5 l1_6 l1_7 l1_8 l1_9 l1_10 k
 unfold tfm_Check_1.f
 exact LeO.bind (tfm_char.mono _ _ _ _ _ _ _ _ _ _ _ _ _ _ _ _ _ _) (fun _ => LeO.refl _)
set_option maxHeartbeats 4000000 in
theorem tfm_Check_1.calls (k : Nat) (a0_0 : Int) (a0_1 : Int) (a0_2 : Int) (a0_3 : Int) (a0_4 : Int) (a0_5 : Int) {gf : Nat} (a1_0 : Int) (a1_1 : Int) (a1_2 : Int) (A1_3 : Option Addr) (c1_3 : Nat) (l1_3 : List S42) (A1_4 : Option Addr) (c1_4 : Nat) (l1_4 : List Int) (A1_5 : Option Addr) (c1_5 : Nat) (l1_5 : List Int) (A1_6 : Option Addr) (c1_6 : Nat) (l1_6 : List Int) (A1_7 : Option Addr) (c1_7 : Nat) (l1_7 : List Int) (A1_8 : Option Addr) (c1_8 : Nat) (l1_8 : List S51) (A1_9 : Option Addr) (c1_9 : Nat) (l1_9 : List Int) (A1_10 : Option Addr) (c1_10 : Nat) (l1_10 : List Int) (r : Bool) (w : World) (hr1_3 : Kd.C k42 w A1_3 l1_3.length l1_3) (hc1_3 : l1_3.length ≤ c1_3) (hr1_4 : Kd.C (Kd.int .i64) w A1_4 l1_4.length l1_4) (hc1_4 : l1_4.length ≤ c1_4) (hr1_5 : Kd.C (Kd.int .i64) w A1_5 l1_5.length l1_5) (hc1_5 : l1_5.length ≤ c1_5) (hr1_6 : Kd.C (Kd.int .i64) w A1_6 l1_6.length l1_6) (hc1_6 : l1_6.length ≤ c1_6) (hr1_7 : Kd.C (Kd.int .i64) w A1_7 l1_7.length l1_7) (hc1_7 : l1_7.length ≤ c1_7) (hr1_8 : Kd.C k51 w A1_8 l1_8.length l1_8) (hc1_8 : l1_8.length ≤ c1_8) (hr1_9 : Kd.C (Kd.int .i64) w A1_9 l1_9.length l1_9) (hc1_9 : l1_9.length ≤ c1_9) (hr1_10 : Kd.C (Kd.int .i64) w A1_10 l1_10.length l1_10) (hc1_10 : l1_10.length ≤ c1_10) (h : tfm_Check_1.f k a0_0 a0_1 a0_2 a0_3 a0_4 a0_5 a1_0 a1_1 a1_2 l1_3 l1_4 l1_5 l1_6 l1_7 l1_8 l1_9 l1_10 = some r) (hf : w.heap[gf]? = some (.cells #[.int .i64 a1_0, .int .i64 a1_1, .int .i64 a1_2, .slice A1_3 l1_3.length c1_3, .slice A1_4 l1_4.length c1_4, .slice A1_5 l1_5.length c1_5, .slice A1_6 l1_6.length c1_6, .slice A1_7 l1_7.length c1_7, .slice A1_8 l1_8.length c1_8, .slice A1_9 l1_9.length c1_9, .slice A1_10 l1_10.length c1_10] 26 (0, 0))) :
  Calls Try.prog 28 #[.agg #[.int .i64 a0_0, .int .i64 a0_1, .int .i64 a0_2, .int .i64 a0_3, .int .i64 a0_4, .int .i64 a0_5], .pointer (some ⟨gf, 0, none⟩)] w fun e w' => e = .returned (.bool r) ∧ Below w.heap.size w w' := by
 have hu26 := Try.underlying26
 have hu42 := Try.underlying42
 obtain ⟨t, ht, h⟩ := Option.bind_eq_some_iff.mp h
 obtain rfl := Option.some.inj h
 have HB := Aside0.mk (Below.refl w.heap.size w)
 have BKgf := Aside0.mk hf
 have hxgf := blk_cell hf
 have hygf := blk_frozen hf
 have HK := Aside0.mk (fun (W : World) (hB : Below w.heap.size w W) => tfm_char.calls k a1_0 a1_1 a1_2 A1_3 c1_3 l1_3 A1_4 c1_4 l1_4 A1_5 c1_5 l1_5 A1_6 c1_6 l1_6 A1_7 c1_7 l1_7 A1_8 c1_8 l1_8 A1_9 c1_9 l1_9 A1_10 c1_10 l1_10 a0_0 a0_1 a0_2 a0_3 a0_4 a0_5 t W (Kd.C_below hr1_3 hB) hc1_3 (Kd.C_below hr1_4 hB) hc1_4 (Kd.C_below hr1_5 hB) hc1_5 (Kd.C_below hr1_6 hB) hc1_6 (Kd.C_below hr1_7 hB) hc1_7 (Kd.C_below hr1_8 hB) hc1_8 (Kd.C_below hr1_9 hB) hc1_9 (Kd.C_below hr1_10 hB) hc1_10 ht)
 clear hf ht
 go_enter Try.func28, Try.ntmps28
 go_wp2_with (first | ((with_reducible refine gate_dst (N := 2) rfl ?_); refine box_event ?hg (N := 2) ?hd (cs := #[.int .i64 a0_0, .int .i64 a0_1, .int .i64 a0_2, .int .i64 a0_3, .int .i64 a0_4, .int .i64 a0_5]) (t := 42) ?hr ?_; (case hd => rfl); (case hg => rfl); (case hr => first | (go_simp; done) | (go_simp; rfl)); intro gc hg wa hbox hb; have GEgc := Aside0.mk (show w.heap.size ≤ gc from hg ▸ below_size (by repeat (first | (with_reducible first | exact HB.out | apply below_alloc | apply pw_below_drewN | apply below_drew1) | exact HB.out))); have n0_ := Aside0.mk (below_step (by repeat (first | (with_reducible first | exact HB.out | apply below_alloc | apply pw_below_drewN | apply below_drew1) | exact HB.out)) hb); have BKgc := Aside0.mk hbox; have hxgc := blk_cell hbox; have hygc := blk_frozen hbox; have zgf := Aside0.mk (blk_below BKgf.out hb); clear BKgf hxgf hygf; have BKgf := zgf; clear zgf; have hxgf := blk_cell BKgf.out; have hygf := blk_frozen BKgf.out; clear HB; have HB := n0_; clear n0_ hb hbox hg) | ((with_reducible refine gate_ (.load 26 (.tmp 1)) rfl ?_); refine wpList_load_row rfl 26 (.tmp 1) rfl gf rfl 26 _ (0, 0) _ BKgf.out hu26 rfl (by kernel_rfl) ?_) | ((with_reducible refine gate_ (.load 42 (.tmp 2)) rfl ?_); refine wpList_load_row rfl 42 (.tmp 2) rfl gc rfl 42 _ (0, 0) _ BKgc.out hu42 rfl (by kernel_rfl) ?_) | (go_at_call 29; (with_reducible refine (HK.out _ HB.out).mono ?_); rintro e wz ⟨rfl, hb⟩; have n0_ := Aside0.mk (below_step HB.out hb); clear HB hb; have HB := n0_; clear n0_))
 go_ret
 exact ⟨rfl, HB.out⟩


/-! ### api_Step_51: function 51 -/
-- by hand
set_option maxHeartbeats 4000000 in
theorem api_Step_51.calls {g : Nat} {lb : Array Value} (eg : ∀ args w, (callFunc g args).run Try.prog w = .ok (.enter g args) w) (p : S51 → Bool) (A0 : Option Addr) (c0 : Nat) (l0 : List S51) (w : World) (hr0 : Kd.C k51 w A0 l0.length l0) (hp : PredK Try.prog g lb agg1 k51 p w l0) :
  Calls Try.prog 51 #[.slice A0 l0.length c0, .func (.func g) #[] lb] w fun e w' => e = .returned (.int .i64 (idxOf p l0)) ∧ Below w.heap.size w w' := by
 have hm := hr0.2.1
 have HR := Aside0.mk hr0
 have HP := Aside0.mk hp
 clear hr0 hp
 have hu := Try.underlying51
 go_enter Try.func51, Try.ntmps51
 go_wp2
 go_loopg [5, 8] l0.length (fun gg _ s8 wr => ∃ kk : Nat, kk ≤ l0.length ∧ l0.length - kk ≤ gg ∧ s8 = .int .i64 kk ∧ Aside0 (Below w.heap.size w wr) ∧ Aside0 (∀ x ∈ l0.take kk, p x = false))
 case atStart => exact ⟨0, Nat.zero_le _, by omega, rfl, ⟨Below.refl _ w⟩, ⟨fun x hx => by simp at hx⟩⟩
 case round =>
  obtain ⟨kk, hkk, hg, rfl, HB, HN⟩ := hrel
  by_cases hlt : kk < l0.length
  ·have hltz : (kk : Int) < (l0.length : Int) := by omega
   obtain ⟨ad, c, rfl, hcl, hK, hc⟩ := C_elem (Kd.C_below HR.out HB.out) kk hlt
   have HC := Aside0.mk (HP.out l0[kk] (List.getElem_mem hlt) wr c HB.out hK)
   obtain ⟨e0, e1, e2, e3, rfl⟩ := list4 hcl
   have hcell0 : wr.cell? (ad.add (kk * 4)) = some e0 := hc 0 e0 rfl
   have hcell1 : wr.cell? ⟨(ad.add (kk * 4)).block, (ad.add (kk * 4)).off + 1, none⟩ = some e1 := cell_add1 (by decide) (hc 1 e1 rfl)
   have hcell2 : wr.cell? ⟨(ad.add (kk * 4)).block, (ad.add (kk * 4)).off + 2, none⟩ = some e2 := cell_add1 (by decide) (hc 2 e2 rfl)
   have hcell3 : wr.cell? ⟨(ad.add (kk * 4)).block, (ad.add (kk * 4)).off + 3, none⟩ = some e3 := cell_add1 (by decide) (hc 3 e3 rfl)
   replace HC : Aside0 (Calls Try.prog g (#[.agg #[e0, e1, e2, e3]] ++ lb) wr fun e w' => e = .returned (.bool (p l0[kk])) ∧ Below wr.heap.size wr w') := HC
   clear hc hcl hK
   have HX := Aside0.mk (show ∀ x ∈ l0.take kk, p x = false from HN.out)
   clear HN
   cases hq : p l0[kk] with
   | true =>
    have HQ := Aside0.mk hq
    rw [hq] at HC
    clear hq
    go_wp2_with (go_at_fn g; refine HC.out.mono ?_; rintro e w' ⟨rfl, hb'⟩)
    go_ret
    refine ⟨?_, below_step HB.out hb'⟩
    rw [idxOf_hit hlt HX.out HQ.out]
    rfl
   | false =>
    have HQ := Aside0.mk hq
    rw [hq] at HC
    clear hq
    go_wp2_with (go_at_fn g; refine HC.out.mono ?_; rintro e w' ⟨rfl, hb'⟩)
    go_roundg (l0.length - (kk + 1))
    case measure => omega
    case rel =>
     refine ⟨kk + 1, by omega, by omega, by go_num, ⟨below_step HB.out hb'⟩, ⟨fun x hx => ?_⟩⟩
     rw [List.take_succ_eq_append_getElem hlt] at hx
     rcases List.mem_append.1 hx with hx | hx
     ·exact HX.out x hx
     ·rw [List.mem_singleton.1 hx]; exact HQ.out
  ·have HX := Aside0.mk (show ∀ x ∈ l0, p x = false from fun x hx => HN.out x (by rw [List.take_of_length_le (by omega)]; exact hx))
   have hge : decide ((kk : Int) < (l0.length : Int)) = false := decide_eq_false (by omega)
   have hge' : decide (kk < l0.length) = false := decide_eq_false hlt
   clear HN
   go_wp2
   go_ret
   exact ⟨by rw [idxOf_none HX.out]; rfl, HB.out⟩


/-! ### api_Step_30: function 30 -/
-- by hand
set_option maxHeartbeats 4000000 in
theorem api_Step_30.calls {g : Nat} {lb : Array Value} (eg : ∀ args w, (callFunc g args).run Try.prog w = .ok (.enter g args) w) (p : S51 → Bool) (A0 : Option Addr) (c0 : Nat) (l0 : List S51) (w : World) (hr0 : Kd.C k51 w A0 l0.length l0) (hp : PredK Try.prog g lb agg1 k51 p w l0) :
  Calls Try.prog 30 #[.slice A0 l0.length c0, .func (.func g) #[] lb] w fun e w' => e = .returned (.bool (l0.any p)) ∧ Below w.heap.size w w' := by
 have HR := Aside0.mk hr0
 have HP := Aside0.mk hp
 clear hr0 hp
 have HA := Aside0.mk (idxOf_any p l0)
 go_enter Try.func30, Try.ntmps30
 go_wp2_with (go_at_call 51; (with_reducible refine (api_Step_51.calls eg p A0 c0 l0 _ HR.out HP.out).mono ?_); rintro e w' ⟨rfl, hb⟩)
 go_ret
 exact ⟨by rw [← HA.out]; rfl, hb⟩


/-! ### tfm_step_1: function 52 -/
def tfm_step_1.f (a0 : Int) : Option (Bool) := (tfm_of.f a0 256).bind fun t112 => (some (!t112))
set_option maxHeartbeats 8000000 in
set_option maxRecDepth 100000 in
theorem tfm_step_1.calls (a0 : Int) (r : Bool) (w : World) (h : tfm_step_1.f a0 = some r) :
  Calls Try.prog 52 #[.int .i64 a0] w fun e w' => e = .returned (.bool r) ∧ Drawn0 w w' := by
 have H : ((tfm_of.f a0 256).bind fun t112 => (some (!t112))) = some r := h
 clear h
 replace H := Option.bind_eq_some_iff.mp H
 obtain ⟨t112, A20, H⟩ := H
 replace H : (some (!t112)) = some r := H
 have A2 := Aside0.mk A20
 clear A20
 obtain rfl := Option.some.inj H
 go_enter Try.func52, Try.ntmps52
 go_wp2_with (first | ((with_reducible refine gate_callee (f := 25) rfl ?_); refine goesL_ (some 4) rfl rfl Try.func25 (by kernel_rfl) rfl #[.int .i64 a0, .int .i64 256] rfl (by (try simp only [List.map_toArray, List.map_cons, List.map_nil]); first | done | rfl | (simp only [List.length_drop, List.length_take]; rfl)) ?_; (with_reducible refine (tfm_of.calls a0 256 t112 _ A2.out).mono ?_); rintro e w' ⟨rfl, ⟨nd, rfl⟩⟩; refine ⟨_, rfl, ?_⟩))
 go_ret
 exact ⟨by first | rfl | (simp; done) | (simp [*]; done), by repeat (first | exact Drawn0.refl _ | apply Drawn0.step)⟩

/-! ### tfm_step_1_any: slices.ContainsFunc[[]int,int] over compositor/tfm.step$1 -/
def tfm_step_1_any.f (l0 : List Int) : Option Bool := if (l0.all fun x => (tfm_step_1.f x).isSome) = true then some (l0.any fun x => (tfm_step_1.f x) == some true) else none
set_option maxHeartbeats 4000000 in
theorem tfm_step_1_any.calls (A0 : Option Addr) (c0 : Nat) (l0 : List Int) (r : Bool) (w : World) (hr0 : Kd.C (Kd.int .i64) w A0 l0.length l0) (hc0 : l0.length ≤ c0) (h : tfm_step_1_any.f l0 = some r) :
  Calls Try.prog 49 #[.slice A0 l0.length c0, .func (.func 52) #[] #[]] w fun e w' => e = .returned (.bool r) ∧ Below w.heap.size w w' := by
 unfold tfm_step_1_any.f at h
 split at h
 ·rename_i hall
  obtain rfl := Option.some.inj h
  refine slices_ContainsFunc_int_int.calls (enters_of Try.func52 (by kernel_rfl) rfl) (fun x => (tfm_step_1.f x) == some true) A0 c0 l0 w hr0 ?_
  intro x hx W cs hB hK
  have hs := List.all_eq_true.1 hall x hx
  obtain ⟨b, hb⟩ := Option.isSome_iff_exists.1 hs
  have hbb : ((tfm_step_1.f x) == some true) = b := by rw [hb]; cases b <;> rfl
  obtain rfl : cs = [.int .i64 x] := hK
  exact (tfm_step_1.calls x b W hb).mono (fun e w' ⟨he, hw⟩ => ⟨by rw [he, ← hbb], hw.below⟩)
 ·cases h

/-! ### tfm_step: function 32 -/
def tfm_step.f (a0_0 : Int) (a0_1 : Int) (a0_2 : Int) (a0_3 : Int) : Option (Bool) := (tfm_step_1_any.f (([a0_0, a0_1, a0_2, a0_3] : List Int))).bind fun t117 => (some (!t117))
set_option maxHeartbeats 8000000 in
set_option maxRecDepth 100000 in
theorem tfm_step.calls (a0_0 : Int) (a0_1 : Int) (a0_2 : Int) (a0_3 : Int) (r : Bool) (w : World) (h : tfm_step.f a0_0 a0_1 a0_2 a0_3 = some r) :
  Calls Try.prog 32 #[.agg #[.int .i64 a0_0, .int .i64 a0_1, .int .i64 a0_2, .int .i64 a0_3]] w fun e w' => e = .returned (.bool r) ∧ Below w.heap.size w w' := by
 have hu51 := Try.underlying51
 have HB := Aside0.mk (Below.refl w.heap.size w)
 have H : ((tfm_step_1_any.f (([a0_0, a0_1, a0_2, a0_3] : List Int))).bind fun t117 => (some (!t117))) = some r := h
 clear h
 obtain ⟨y114, hy114⟩ : ∃ y_ : List Int, y_ = (([a0_0, a0_1, a0_2, a0_3] : List Int)) := ⟨_, rfl⟩
 replace H : ((tfm_step_1_any.f y114).bind fun t117 => (some (!t117))) = some r := by first | (rw [hy114]; with_reducible exact H) | (have H2_ := (Option.bind_some _ _).symm.trans H; rw [hy114]; with_reducible exact H2_) | (have H2_ := (Option.bind_some _ _).symm.trans H; with_reducible exact H2_) | with_reducible exact H | (rw [hy114]; exact H) | exact H
 have Ny114 := Aside0.mk hy114
 clear hy114
 replace H := Option.bind_eq_some_iff.mp H
 obtain ⟨t117, A20, H⟩ := H
 replace H : (some (!t117)) = some r := H
 have A2 := Aside0.mk A20
 clear A20
 obtain rfl := Option.some.inj H
 go_enter Try.func32, Try.ntmps32
 go_wp2_with (first | ((with_reducible refine gate_dst (N := 1) rfl ?_); refine box_event ?hg (N := 1) ?hd (cs := #[.int .i64 a0_0, .int .i64 a0_1, .int .i64 a0_2, .int .i64 a0_3]) (t := 51) ?hr ?_; (case hd => rfl); (case hg => rfl); (case hr => first | (go_simp; done) | (go_simp; rfl)); intro gb113 hg w3 hbox hb; have n0_ := Aside0.mk (below_step (by repeat (first | (with_reducible first | exact HB.out | apply below_alloc | apply pw_below_drewN | apply below_drew1) | exact HB.out)) hb); have n1_ := Aside0.mk (hbox); have n2_ := Aside0.mk ((by rw [hg]; exact (below_size (by repeat (first | (with_reducible first | exact HB.out | apply below_alloc | apply pw_below_drewN | apply below_drew1) | exact HB.out))) : w.heap.size ≤ gb113)); have n3_ := Aside0.mk ((by rw [hg]; exact (below_size (by repeat (first | (with_reducible first | exact HB.out | apply below_alloc | apply pw_below_drewN | apply below_drew1) | exact HB.out))) : w.heap.size ≤ gb113)); clear HB; have HB := n0_; have BK113 := n1_; have GW113 := n2_; have GE113 := n3_; clear n0_ n1_ n2_ n3_; clear hb hbox hg; have hcz4_0 : w3.cell? ⟨gb113, 0, none⟩ = some (.int .i64 a0_0) := (blk_cell BK113.out 0).trans rfl; have hcz4_1 : w3.cell? ⟨gb113, 1, none⟩ = some (.int .i64 a0_1) := (blk_cell BK113.out 1).trans rfl; have hcz4_2 : w3.cell? ⟨gb113, 2, none⟩ = some (.int .i64 a0_2) := (blk_cell BK113.out 2).trans rfl; have hcz4_3 : w3.cell? ⟨gb113, 3, none⟩ = some (.int .i64 a0_3) := (blk_cell BK113.out 3).trans rfl; have hfz4_0 := blk_frozen BK113.out 0; have hfz4_1 := blk_frozen BK113.out 1; have hfz4_2 := blk_frozen BK113.out 2; have hfz4_3 := blk_frozen BK113.out 3) | ((with_reducible refine gate_dst (N := 11) rfl ?_); refine Kd.R_lit (Kd.int .i64) _ 3 ?hg (N := 11) ?hd (xs := ([a0_0, a0_1, a0_2, a0_3] : List Int)) (inner := [.int .i64 a0_0, .int .i64 a0_1, .int .i64 a0_2, .int .i64 a0_3]) (ok := fun _ => True) (okp := fun _ => True) ?hr ?hp (fun _ hk => hk) trivial (Below.refl _ _) (Nat.le_refl _) (by simp) ?_; (case hd => rfl); (case hg => rfl); (case hr => first | (go_simp; done) | (go_simp; rfl)); (case hp => exact (Reps.one (show Kd.M (Kd.int .i64) _ _ _ a0_0 [.int .i64 a0_0] from rfl) (Reps.one (show Kd.M (Kd.int .i64) _ _ _ a0_1 [.int .i64 a0_1] from rfl) (Reps.one (show Kd.M (Kd.int .i64) _ _ _ a0_2 [.int .i64 a0_2] from rfl) (Reps.one (show Kd.M (Kd.int .i64) _ _ _ a0_3 [.int .i64 a0_3] from rfl) (Reps.none _ _)))))); intro v115 w5 ho6 hb hg_ hnew_; clear hg_ hnew_; (first | rw [← Ny114.out] at ho6 | (simp only [Int.reduceToNat] at ho6; rw [← Ny114.out] at ho6)); have n0_ := Aside0.mk (Kd.R_lower ho6 (below_size (by repeat (first | (with_reducible first | exact HB.out | apply below_alloc | apply pw_below_drewN | apply below_drew1 | refine below_set ?_ GE113.out) | exact HB.out)))); have n1_ := Aside0.mk (blk_below (g := gb113) (o := .cells #[.int .i64 a0_0, .int .i64 a0_1, .int .i64 a0_2, .int .i64 a0_3] 51 (0, 0)) (by (with_reducible repeat (first | refine blk_drewN ?_ _ | refine blk_drew ?_ | refine blk_alloc ?_ _)); exact BK113.out) hb); have n2_ := Aside0.mk (below_step (by repeat (first | (with_reducible first | exact HB.out | apply below_alloc | apply pw_below_drewN | apply below_drew1 | refine below_set ?_ GE113.out) | exact HB.out)) hb); clear BK113; clear HB; have HO116 := n0_; have BK113 := n1_; have HB := n2_; clear n0_ n1_ n2_; clear hb ho6; obtain ⟨Ao7, co7, eo7⟩ := Kd.R_slice HO116.out; subst eo7) | (go_at_call 49; (with_reducible refine (tfm_step_1_any.calls _ _ y114 t117 _ ?side1 ?side2 A2.out).mono ?_); (case side1 => repeat (first | exact (Kd.R_reads' HO116.out).2.2 | (with_reducible apply Kd.C_alloc) | (with_reducible apply Kd.C_drewN) | (with_reducible apply Kd.C_drew))); (case side2 => exact (Kd.R_reads' HO116.out).2.1); rintro e w8 ⟨rfl, hb⟩; have n0_ := Aside0.mk (Kd.R_below (by (with_reducible repeat (first | apply Kd.R_alloc | apply Kd.R_drewN | apply Kd.R_drew)); exact HO116.out) hb); have n1_ := Aside0.mk (blk_below (g := gb113) (o := .cells #[.int .i64 a0_0, .int .i64 a0_1, .int .i64 a0_2, .int .i64 a0_3] 51 (0, 0)) (by (with_reducible repeat (first | refine blk_drewN ?_ _ | refine blk_drew ?_ | refine blk_alloc ?_ _)); exact BK113.out) hb); have n2_ := Aside0.mk (below_step (by repeat (first | (with_reducible first | exact HB.out | apply below_alloc | apply pw_below_drewN | apply below_drew1 | refine below_set ?_ GE113.out) | exact HB.out)) hb); clear HO116; clear BK113; clear HB; have HO116 := n0_; have BK113 := n1_; have HB := n2_; clear n0_ n1_ n2_; (try clear hb); (try clear hb2); (try clear hk); (try clear hi)))
 go_ret
 exact ⟨by first | rfl | (simp [errW_none, errW_some] <;> rfl) | (simp [*, errW_none, errW_some] <;> rfl), by repeat (first | (with_reducible first | exact HB.out | apply below_alloc | apply pw_below_drewN | apply below_drew1 | refine below_set ?_ GE113.out) | exact HB.out)⟩

/-! ### tfm_Check_2: function 31 -/
def tfm_Check_2.f (a0_0 : Int) (a0_1 : Int) (a0_2 : Int) (a0_3 : Int) : Option (Bool) := (tfm_step.f a0_0 a0_1 a0_2 a0_3).bind fun t119 => (some (!t119))
set_option maxHeartbeats 8000000 in
set_option maxRecDepth 100000 in
theorem tfm_Check_2.calls (a0_0 : Int) (a0_1 : Int) (a0_2 : Int) (a0_3 : Int) (r : Bool) (w : World) (h : tfm_Check_2.f a0_0 a0_1 a0_2 a0_3 = some r) :
  Calls Try.prog 31 #[.agg #[.int .i64 a0_0, .int .i64 a0_1, .int .i64 a0_2, .int .i64 a0_3]] w fun e w' => e = .returned (.bool r) ∧ Below w.heap.size w w' := by
 have hu51 := Try.underlying51
 have HB := Aside0.mk (Below.refl w.heap.size w)
 have H : ((tfm_step.f a0_0 a0_1 a0_2 a0_3).bind fun t119 => (some (!t119))) = some r := h
 clear h
 replace H := Option.bind_eq_some_iff.mp H
 obtain ⟨t119, A20, H⟩ := H
 replace H : (some (!t119)) = some r := H
 have A2 := Aside0.mk A20
 clear A20
 obtain rfl := Option.some.inj H
 go_enter Try.func31, Try.ntmps31
 go_wp2_with (first | ((with_reducible refine gate_dst (N := 1) rfl ?_); refine box_event ?hg (N := 1) ?hd (cs := #[.int .i64 a0_0, .int .i64 a0_1, .int .i64 a0_2, .int .i64 a0_3]) (t := 51) ?hr ?_; (case hd => rfl); (case hg => rfl); (case hr => first | (go_simp; done) | (go_simp; rfl)); intro gb118 hg w3 hbox hb; have n0_ := Aside0.mk (below_step (by repeat (first | (with_reducible first | exact HB.out | apply below_alloc | apply pw_below_drewN | apply below_drew1) | exact HB.out)) hb); have n1_ := Aside0.mk (hbox); have n2_ := Aside0.mk ((by rw [hg]; exact (below_size (by repeat (first | (with_reducible first | exact HB.out | apply below_alloc | apply pw_below_drewN | apply below_drew1) | exact HB.out))) : w.heap.size ≤ gb118)); have n3_ := Aside0.mk ((by rw [hg]; exact (below_size (by repeat (first | (with_reducible first | exact HB.out | apply below_alloc | apply pw_below_drewN | apply below_drew1) | exact HB.out))) : w.heap.size ≤ gb118)); clear HB; have HB := n0_; have BK118 := n1_; have GW118 := n2_; have GE118 := n3_; clear n0_ n1_ n2_ n3_; clear hb hbox hg; have hcz4_0 : w3.cell? ⟨gb118, 0, none⟩ = some (.int .i64 a0_0) := (blk_cell BK118.out 0).trans rfl; have hcz4_1 : w3.cell? ⟨gb118, 1, none⟩ = some (.int .i64 a0_1) := (blk_cell BK118.out 1).trans rfl; have hcz4_2 : w3.cell? ⟨gb118, 2, none⟩ = some (.int .i64 a0_2) := (blk_cell BK118.out 2).trans rfl; have hcz4_3 : w3.cell? ⟨gb118, 3, none⟩ = some (.int .i64 a0_3) := (blk_cell BK118.out 3).trans rfl; have hfz4_0 := blk_frozen BK118.out 0; have hfz4_1 := blk_frozen BK118.out 1; have hfz4_2 := blk_frozen BK118.out 2; have hfz4_3 := blk_frozen BK118.out 3) | ((with_reducible refine gate_callee (f := 32) rfl ?_); refine goesL_ (some 4) rfl rfl Try.func32 (by kernel_rfl) rfl #[.agg #[.int .i64 a0_0, .int .i64 a0_1, .int .i64 a0_2, .int .i64 a0_3]] rfl (by (try simp only [List.map_toArray, List.map_cons, List.map_nil]); first | done | rfl | (simp only [List.length_drop, List.length_take]; rfl)) ?_; (with_reducible refine (tfm_step.calls a0_0 a0_1 a0_2 a0_3 t119 _ A2.out).mono ?_); rintro e w5 ⟨rfl, hb⟩; refine ⟨_, rfl, ?_⟩; have n0_ := Aside0.mk (blk_below (g := gb118) (o := .cells #[.int .i64 a0_0, .int .i64 a0_1, .int .i64 a0_2, .int .i64 a0_3] 51 (0, 0)) (by (with_reducible repeat (first | refine blk_drewN ?_ _ | refine blk_drew ?_ | refine blk_alloc ?_ _)); exact BK118.out) hb); have n1_ := Aside0.mk (below_step (by repeat (first | (with_reducible first | exact HB.out | apply below_alloc | apply pw_below_drewN | apply below_drew1 | refine below_set ?_ GE118.out) | exact HB.out)) hb); clear BK118; clear HB; have BK118 := n0_; have HB := n1_; clear n0_ n1_; (try clear hb); (try clear hb2); (try clear hk); (try clear hi)))
 go_ret
 exact ⟨by first | rfl | (simp [errW_none, errW_some] <;> rfl) | (simp [*, errW_none, errW_some] <;> rfl), by repeat (first | (with_reducible first | exact HB.out | apply below_alloc | apply pw_below_drewN | apply below_drew1 | refine below_set ?_ GE118.out) | exact HB.out)⟩

/-! ### tfm_Check_1_any: slices.ContainsFunc[[]compositor/api.Char,compositor/api.Char] over compositor/tfm.Check$1, which reads a variable -/
def tfm_Check_1_any.f (k : Nat) (l0 : List S42) (a1_0 : Int) (a1_1 : Int) (a1_2 : Int) (l1_3 : List (S42)) (l1_4 : List Int) (l1_5 : List Int) (l1_6 : List Int) (l1_7 : List Int) (l1_8 : List (S51)) (l1_9 : List Int) (l1_10 : List Int) : Option Bool := if (l0.all fun x => (tfm_Check_1.f k x.f0 x.f1 x.f2 x.f3 x.f4 x.f5 a1_0 a1_1 a1_2 l1_3 l1_4 l1_5 l1_6 l1_7 l1_8 l1_9 l1_10).isSome) = true then some (l0.any fun x => (tfm_Check_1.f k x.f0 x.f1 x.f2 x.f3 x.f4 x.f5 a1_0 a1_1 a1_2 l1_3 l1_4 l1_5 l1_6 l1_7 l1_8 l1_9 l1_10) == some true) else none
theorem tfm_Check_1_any.mono : ∀ l0 a1_0 a1_1 a1_2 l1_3 l1_4 l1_5 l1_6 l1_7 l1_8 l1_9 l1_10 k, LeO (tfm_Check_1_any.f k l0 a1_0 a1_1 a1_2 l1_3 l1_4 l1_5 l1_6 l1_7 l1_8 l1_9 l1_10) (tfm_Check_1_any.f (k + 1) l0 a1_0 a1_1 a1_2 l1_3 l1_4 l1_5 l1_6 l1_7 l1_8 l1_9 l1_10) := by
 intro l0 a1_0 a1_1 a1_2 l1_3 l1_4 l1_5 l1_6 l1_7 l1_8 l1_9 l1_10 k r h
 unfold tfm_Check_1_any.f at h ⊢
 have hm : ∀ x : S42, LeO (tfm_Check_1.f k x.f0 x.f1 x.f2 x.f3 x.f4 x.f5 a1_0 a1_1 a1_2 l1_3 l1_4 l1_5 l1_6 l1_7 l1_8 l1_9 l1_10) (tfm_Check_1.f (k + 1) x.f0 x.f1 x.f2 x.f3 x.f4 x.f5 a1_0 a1_1 a1_2 l1_3 l1_4 l1_5 l1_6 l1_7 l1_8 l1_9 l1_10) := fun x => tfm_Check_1.mono _ _ _ _ _ _ _ _ _ _ _ _ _ _ _ _ _ k
 exact any_rounds _ _ hm l0 r h
set_option maxHeartbeats 4000000 in
theorem tfm_Check_1_any.calls (k : Nat) (A0 : Option Addr) (c0 : Nat) (l0 : List S42) {g_ : Nat} (a1_0 : Int) (a1_1 : Int) (a1_2 : Int) (A1_3 : Option Addr) (c1_3 : Nat) (l1_3 : List (S42)) (A1_4 : Option Addr) (c1_4 : Nat) (l1_4 : List Int) (A1_5 : Option Addr) (c1_5 : Nat) (l1_5 : List Int) (A1_6 : Option Addr) (c1_6 : Nat) (l1_6 : List Int) (A1_7 : Option Addr) (c1_7 : Nat) (l1_7 : List Int) (A1_8 : Option Addr) (c1_8 : Nat) (l1_8 : List (S51)) (A1_9 : Option Addr) (c1_9 : Nat) (l1_9 : List Int) (A1_10 : Option Addr) (c1_10 : Nat) (l1_10 : List Int) (r : Bool) (w : World) (hr0 : Kd.C k42 w A0 l0.length l0) (hc0 : l0.length ≤ c0) (hr1_3 : Kd.C k42 w A1_3 l1_3.length l1_3) (hc1_3 : l1_3.length ≤ c1_3) (hr1_4 : Kd.C (Kd.int .i64) w A1_4 l1_4.length l1_4) (hc1_4 : l1_4.length ≤ c1_4) (hr1_5 : Kd.C (Kd.int .i64) w A1_5 l1_5.length l1_5) (hc1_5 : l1_5.length ≤ c1_5) (hr1_6 : Kd.C (Kd.int .i64) w A1_6 l1_6.length l1_6) (hc1_6 : l1_6.length ≤ c1_6) (hr1_7 : Kd.C (Kd.int .i64) w A1_7 l1_7.length l1_7) (hc1_7 : l1_7.length ≤ c1_7) (hr1_8 : Kd.C k51 w A1_8 l1_8.length l1_8) (hc1_8 : l1_8.length ≤ c1_8) (hr1_9 : Kd.C (Kd.int .i64) w A1_9 l1_9.length l1_9) (hc1_9 : l1_9.length ≤ c1_9) (hr1_10 : Kd.C (Kd.int .i64) w A1_10 l1_10.length l1_10) (hc1_10 : l1_10.length ≤ c1_10) (h : tfm_Check_1_any.f k l0 a1_0 a1_1 a1_2 l1_3 l1_4 l1_5 l1_6 l1_7 l1_8 l1_9 l1_10 = some r) (hb_ : Aside0 (w.heap[g_]? = some (.cells #[.int .i64 a1_0, .int .i64 a1_1, .int .i64 a1_2, .slice A1_3 l1_3.length c1_3, .slice A1_4 l1_4.length c1_4, .slice A1_5 l1_5.length c1_5, .slice A1_6 l1_6.length c1_6, .slice A1_7 l1_7.length c1_7, .slice A1_8 l1_8.length c1_8, .slice A1_9 l1_9.length c1_9, .slice A1_10 l1_10.length c1_10] 26 (0, 0))) := by first | assumption | exact ⟨by (with_reducible repeat (first | refine blk_drewN ?_ _ | refine blk_drew ?_ | refine blk_alloc ?_ _)); exact Aside0.out (by assumption)⟩) :
  Calls Try.prog 27 #[.slice A0 l0.length c0, .func (.func 28) #[] #[.pointer (some ⟨g_, 0, none⟩)]] w fun e w' => e = .returned (.bool r) ∧ Below w.heap.size w w' := by
 unfold tfm_Check_1_any.f at h
 split at h
 ·rename_i hall
  obtain rfl := Option.some.inj h
  refine api_Char_27.calls (enters_of Try.func28 (by kernel_rfl) rfl) (fun x => (tfm_Check_1.f k x.f0 x.f1 x.f2 x.f3 x.f4 x.f5 a1_0 a1_1 a1_2 l1_3 l1_4 l1_5 l1_6 l1_7 l1_8 l1_9 l1_10) == some true) A0 c0 l0 w hr0 ?_
  intro x hx W cs hB hK
  have hs := List.all_eq_true.1 hall x hx
  obtain ⟨b, hb⟩ := Option.isSome_iff_exists.1 hs
  have hbb : ((tfm_Check_1.f k x.f0 x.f1 x.f2 x.f3 x.f4 x.f5 a1_0 a1_1 a1_2 l1_3 l1_4 l1_5 l1_6 l1_7 l1_8 l1_9 l1_10) == some true) = b := by rw [hb]; cases b <;> rfl
  obtain rfl := k42_open hK
  exact (tfm_Check_1.calls k _ _ _ _ _ _ a1_0 a1_1 a1_2 A1_3 c1_3 l1_3 A1_4 c1_4 l1_4 A1_5 c1_5 l1_5 A1_6 c1_6 l1_6 A1_7 c1_7 l1_7 A1_8 c1_8 l1_8 A1_9 c1_9 l1_9 A1_10 c1_10 l1_10 b W (Kd.C_below hr1_3 hB) hc1_3 (Kd.C_below hr1_4 hB) hc1_4 (Kd.C_below hr1_5 hB) hc1_5 (Kd.C_below hr1_6 hB) hc1_6 (Kd.C_below hr1_7 hB) hc1_7 (Kd.C_below hr1_8 hB) hc1_8 (Kd.C_below hr1_9 hB) hc1_9 (Kd.C_below hr1_10 hB) hc1_10 hb (blk_below hb_.out hB)).mono (fun e w' ⟨he, hw⟩ => ⟨by rw [he, ← hbb], hw⟩)
 ·cases h

/-! ### tfm_Check_2_any: slices.ContainsFunc[[]compositor/api.Step,compositor/api.Step] over compositor/tfm.Check$2 -/
def tfm_Check_2_any.f (l0 : List S51) : Option Bool := if (l0.all fun x => (tfm_Check_2.f x.f0 x.f1 x.f2 x.f3).isSome) = true then some (l0.any fun x => (tfm_Check_2.f x.f0 x.f1 x.f2 x.f3) == some true) else none
set_option maxHeartbeats 4000000 in
theorem tfm_Check_2_any.calls (A0 : Option Addr) (c0 : Nat) (l0 : List S51) (r : Bool) (w : World) (hr0 : Kd.C k51 w A0 l0.length l0) (hc0 : l0.length ≤ c0) (h : tfm_Check_2_any.f l0 = some r) :
  Calls Try.prog 30 #[.slice A0 l0.length c0, .func (.func 31) #[] #[]] w fun e w' => e = .returned (.bool r) ∧ Below w.heap.size w w' := by
 unfold tfm_Check_2_any.f at h
 split at h
 ·rename_i hall
  obtain rfl := Option.some.inj h
  refine api_Step_30.calls (enters_of Try.func31 (by kernel_rfl) rfl) (fun x => (tfm_Check_2.f x.f0 x.f1 x.f2 x.f3) == some true) A0 c0 l0 w hr0 ?_
  intro x hx W cs hB hK
  have hs := List.all_eq_true.1 hall x hx
  obtain ⟨b, hb⟩ := Option.isSome_iff_exists.1 hs
  have hbb : ((tfm_Check_2.f x.f0 x.f1 x.f2 x.f3) == some true) = b := by rw [hb]; cases b <;> rfl
  obtain rfl := k51_open hK
  exact (tfm_Check_2.calls _ _ _ _ b W hb).mono (fun e w' ⟨he, hw⟩ => ⟨by rw [he, ← hbb], hw⟩)
 ·cases h

end Go.Proofs.Ytpijgpjoobffoaa.G
