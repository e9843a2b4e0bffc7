/- Contracts of the functions of this seat: what each call computes, as a plain Lean function. Made by this session's own generator. -/
import Derived.Test.YtpicbjcpdngmlaaGx0
import Derived.Test.YtpicbjcpdngmlaaGx1
namespace Go.Proofs.Ytpicbjcpdngmlaa.G
open Go.RowKit Go.Proofs.YtpicbjcpdngmlaaMy Go.Proofs.YtpicbjcpdngmlaaW.PrintWords Go.Proofs.YtpicbjcpdngmlaaW.PrintLast Go.Proofs.YtpicbjcpdngmlaaW.PrintMore
attribute [local go_sem] max2_int min2_int max_two min_two max_three min_three max_four min_four   -- for this text's walks alone
set_option linter.unusedVariables false
set_option linter.unusedSimpArgs false

attribute [local go_sem high] eqA36
/-! ### compositorref20_Same: function 9 -/
def compositorref20_Same.l0 : Nat → List (S36) → List (S36) → Int → Option (Bool)
 | 0, _, _, _ => none
 | k + 1, x0, x1, x5 => if x5 < (x0.length : Int) then (if 0 ≤ x5 then (if x5 < (x1.length : Int) then (if (!(((rd_T36 x0 x5).f0) == ((rd_T36 x1 x5).f0)) || (!(((rd_T36 x0 x5).f1) == ((rd_T36 x1 x5).f1)))) = true then (some false) else (compositorref20_Same.l0 k x0 x1 (wrap64 (x5 + 1)))) else (none)) else (none)) else (some true)
def compositorref20_Same.f (k : Nat) (l0 : List (S36)) (l1 : List (S36)) : Option (Bool) := if (l0.length : Int) = (l1.length : Int) then (compositorref20_Same.l0 k l0 l1 0) else (some false)
theorem compositorref20_Same.mono_l : ∀ k, (∀ y0 y1 y2, LeO (compositorref20_Same.l0 k y0 y1 y2) (compositorref20_Same.l0 (k + 1) y0 y1 y2))
 | 0 => fun _ _ _ r h => by simp [compositorref20_Same.l0] at h
 | k + 1 => by
  have ih0 := compositorref20_Same.mono_l k
  ·intro y0 y1 y2
   unfold compositorref20_Same.l0
   repeat' first
   | (with_reducible exact ih0 _ _ _)
   | (with_reducible exact LeO.refl _)
   | (with_reducible exact LeO.none _)
   | (with_reducible refine LeO.ite ?_ ?_)
   | (with_reducible refine LeO.bind ?_ (fun _ => ?_))
   | exact ih0 _ _ _
   | exact LeO.none _
   | refine LeO.ite ?_ ?_
   | refine LeO.bind ?_ (fun _ => ?_)
theorem compositorref20_Same.mono : ∀ a0 a1 k, LeO (compositorref20_Same.f k a0 a1) (compositorref20_Same.f (k + 1) a0 a1) := by
 intro a0 a1 k
 have ih0 := compositorref20_Same.mono_l k
 unfold compositorref20_Same.f
 repeat' first
   | (with_reducible exact ih0 _ _ _)
   | (with_reducible exact LeO.refl _)
   | (with_reducible exact LeO.none _)
   | (with_reducible refine LeO.ite ?_ ?_)
   | (with_reducible refine LeO.bind ?_ (fun _ => ?_))
   | exact ih0 _ _ _
   | exact LeO.none _
   | refine LeO.ite ?_ ?_
   | refine LeO.bind ?_ (fun _ => ?_)
set_option maxHeartbeats 8000000 in
set_option maxRecDepth 100000 in
theorem compositorref20_Same.calls (k : Nat) (A0 : Option Addr) (c0 : Nat) (l0 : List (S36)) (A1 : Option Addr) (c1 : Nat) (l1 : List (S36)) (r : Bool) (w : World) (hr0 : Kd.C k36 w A0 l0.length l0) (hc0 : l0.length ≤ c0) (hr1 : Kd.C k36 w A1 l1.length l1) (hc1 : l1.length ≤ c1) (h : compositorref20_Same.f k l0 l1 = some r) :
  Calls Try.prog 9 #[.slice A0 l0.length c0, .slice A1 l1.length c1] w fun e w' => e = .returned (.bool r) ∧ Drawn0 w w' := by
 have hu36 := Try.underlying36
 have HR0 := Aside0.mk hr0
 have HC0 := Aside0.mk hc0
 clear hr0 hc0
 have HR1 := Aside0.mk hr1
 have HC1 := Aside0.mk hc1
 clear hr1 hc1
 have H : (if (l0.length : Int) = (l1.length : Int) then (compositorref20_Same.l0 k l0 l1 0) else (some false)) = some r := h
 clear h
 by_cases c3 : (l0.length : Int) = (l1.length : Int)
 ·rw [if_pos c3] at H
  have c3b0 : ((l0.length : Int) == (l1.length : Int)) = true := beq_iff_eq.mpr c3
  have c3b1 : ((l0.length : Int) != (l1.length : Int)) = false := bne_eq_false_iff_eq.mpr c3
  have c3b2 : (l0.length == l1.length) = true := by first | simpa using c3 | (simp at c3 ⊢; omega)
  clear c3
  have H' := Aside0.mk H
  clear H
  go_enter Try.func9, Try.ntmps9
  go_wp2
  repeat (go_quiet (fail); try go_wp2)
  go_loopg [5] k (fun kq v5 w' => ∃ (x5_1 : Int), v5 = .int .i64 x5_1 ∧ Aside0 (compositorref20_Same.l0 kq l0 l1 x5_1 = some r) ∧ Aside0 (kq ≤ k) ∧ Drawn0 w w')
  case atStart => exact ⟨(0), (by first | rfl | (simp; done) | (simp [*]; done)), H', ⟨Nat.le_refl _⟩, by repeat (first | exact Drawn0.refl _ | apply Drawn0.step)⟩
  case round =>
   clear H'
   try clear c1
   try clear p2
   try clear c3
   try clear c3b0
   try clear c3b1
   try clear c3b2
   obtain ⟨x5_1, rfl, HA, HK1, ⟨m1, rfl⟩⟩ := hrel
   cases gk with
   | zero => exact absurd HA.out (by simp [compositorref20_Same.l0])
   | succ k1 =>
    have H := HA.out
    clear HA
    simp only [compositorref20_Same.l0] at H
    by_cases c4 : x5_1 < (l0.length : Int)
    ·rw [if_pos c4] at H
     have c4b0 : decide (x5_1 < (l0.length : Int)) = true := decide_eq_true c4
     clear c4
     by_cases c5 : 0 ≤ x5_1
     ·rw [if_pos c5] at H
      have c5b0 : decide (0 ≤ x5_1) = true := decide_eq_true c5
      clear c5
      by_cases c6 : x5_1 < (l1.length : Int)
      ·rw [if_pos c6] at H
       have c6b0 : decide (x5_1 < (l1.length : Int)) = true := decide_eq_true c6
       clear c6
       by_cases c7 : (!(((rd_T36 l0 x5_1).f0) == ((rd_T36 l1 x5_1).f0)) || (!(((rd_T36 l0 x5_1).f1) == ((rd_T36 l1 x5_1).f1)))) = true
       ·rw [if_pos c7] at H
        have c7b0 : (!(((rd_T36 l0 x5_1).f0) == ((rd_T36 l1 x5_1).f0)) || (!(((rd_T36 l0 x5_1).f1) == ((rd_T36 l1 x5_1).f1)))) = true := c7
        clear c7
        obtain rfl := Option.some.inj H
        have p101 : 0 ≤ (x5_1 : Int) := odt
        have q101 : x5_1 < (l0.length : Int) := odt
        obtain ⟨ad101, e101, hx101_0, hx101_1⟩ := at_T36 HR0.out x5_1 p101 q101
        cases e101
        replace p101 := eq_true p101
        replace q101 := eq_true q101
        have p102 : 0 ≤ (x5_1 : Int) := odt
        have q102 : x5_1 < (l1.length : Int) := odt
        obtain ⟨ad102, e102, hx102_0, hx102_1⟩ := at_T36 HR1.out x5_1 p102 q102
        cases e102
        replace p102 := eq_true p102
        replace q102 := eq_true q102
        go_wp2
        repeat (go_quiet (fail); try go_wp2)
        go_ret
        exact ⟨by first | rfl | (simp; done) | (simp [*]; done), by repeat (first | exact Drawn0.refl _ | apply Drawn0.step)⟩
       ·rw [if_neg c7] at H
        have c7b0 : (!(((rd_T36 l0 x5_1).f0) == ((rd_T36 l1 x5_1).f0)) || (!(((rd_T36 l0 x5_1).f1) == ((rd_T36 l1 x5_1).f1)))) = false := by simpa using c7
        clear c7
        have H' := Aside0.mk H
        clear H
        have p101 : 0 ≤ (x5_1 : Int) := odt
        have q101 : x5_1 < (l0.length : Int) := odt
        obtain ⟨ad101, e101, hx101_0, hx101_1⟩ := at_T36 HR0.out x5_1 p101 q101
        cases e101
        replace p101 := eq_true p101
        replace q101 := eq_true q101
        have p102 : 0 ≤ (x5_1 : Int) := odt
        have q102 : x5_1 < (l1.length : Int) := odt
        obtain ⟨ad102, e102, hx102_0, hx102_1⟩ := at_T36 HR1.out x5_1 p102 q102
        cases e102
        replace p102 := eq_true p102
        replace q102 := eq_true q102
        go_wp2
        repeat (go_quiet (fail); try go_wp2)
        go_roundg k1
        case measure => have := HK1.out; omega
        case rel => exact ⟨(wrap64 (x5_1 + 1)), (by first | rfl | (simp; done) | (simp [*]; done)), H', ⟨by have := HK1.out; omega⟩, by repeat (first | exact Drawn0.refl _ | apply Drawn0.step)⟩
      ·rw [if_neg c6] at H
       exact absurd H (by simp)
     ·rw [if_neg c5] at H
      exact absurd H (by simp)
    ·rw [if_neg c4] at H
     have c4b0 : decide (x5_1 < (l0.length : Int)) = false := decide_eq_false c4
     clear c4
     obtain rfl := Option.some.inj H
     go_wp2
     repeat (go_quiet (fail); try go_wp2)
     go_ret
     exact ⟨by first | rfl | (simp; done) | (simp [*]; done), by repeat (first | exact Drawn0.refl _ | apply Drawn0.step)⟩
 ·rw [if_neg c3] at H
  have c3b0 : ((l0.length : Int) == (l1.length : Int)) = false := beq_eq_false_iff_ne.mpr c3
  have c3b1 : ((l0.length : Int) != (l1.length : Int)) = true := bne_iff_ne.mpr c3
  have c3b2 : (l0.length == l1.length) = false := by first | simpa using c3 | (simp at c3 ⊢; omega)
  obtain rfl := Option.some.inj H
  go_enter Try.func9, Try.ntmps9
  go_wp2
  repeat (go_quiet (fail); try go_wp2)
  go_ret
  exact ⟨by first | rfl | (simp; done) | (simp [*]; done), by repeat (first | exact Drawn0.refl _ | apply Drawn0.step)⟩

/-! ### api_Placed_1: function 20 -/
-- by hand
/-- What comes: the elements from the last one on, each with its place. -/
def api_Placed_1.all (l : List S33) : List (Nat × S33) := (l.zipIdx.map fun p => (p.2, p.1)).reverse
theorem api_Placed_1.all_len (l : List S33) : (api_Placed_1.all l).length = l.length := by simp [api_Placed_1.all]
theorem api_Placed_1.all_at (l : List S33) (k : Nat) (h : k < l.length) : (api_Placed_1.all l)[k]'(by rw [api_Placed_1.all_len]; exact h) = (l.length - 1 - k, l[l.length - 1 - k]'(by omega)) := by
 simp [api_Placed_1.all]
theorem api_Placed_1.take_succ (l : List S33) (k : Nat) (h : k < l.length) : (api_Placed_1.all l).take (k + 1) = (api_Placed_1.all l).take k ++ [(l.length - 1 - k, l[l.length - 1 - k]'(by omega))] := by
 rw [List.take_succ_eq_append_getElem (by rw [api_Placed_1.all_len]; exact h), api_Placed_1.all_at l k h]
/-- What a round is handed: an element, with its place. -/
abbrev api_Placed_1.It (l : List S33) : Type := { p : Nat × S33 // l[p.1]? = some p.2 }
def api_Placed_1.encs {l : List S33} (x : api_Placed_1.It l) : Array Value := #[.int .i64 x.1.1, .agg #[.int .i64 x.1.2.f0, .int .i64 x.1.2.f1]]
set_option maxHeartbeats 4000000 in
set_option maxRecDepth 100000 in
theorem api_Placed_1.stops (A0 : Option Addr) (c0 : Nat) (l0 : List S33) (n B : Nat) (w W0 : World) (hW0 : Below w.heap.size w W0) (hB : W0.heap[B]? = some (.cells #[.slice A0 l0.length c0] 22 (0, 0))) (hr0 : Kd.C k33 w A0 l0.length l0) :
  SeqStopsK Fence.wide n Try.prog 20 #[.pointer (some ⟨B, 0, none⟩)] (api_Placed_1.encs (l := l0)) (KpB w.heap.size B) (fun ys => ys.map (·.1) = api_Placed_1.all l0) (fun pre => pre.map (·.1) <+: api_Placed_1.all l0) l0.length W0 := by
 intro l J Jx W hW hJ _ hY h0
 have HR := Aside0.mk hr0
 have HM := Aside0.mk hr0.2.1
 have hBk := Aside0.mk ((hW.block B (Array.getElem?_eq_some_iff.1 hB).1).trans hB)
 have HW := Aside0.mk (hW0.trans (hW.mono hW0.size))
 have HY := Aside0.mk hY
 have HJ := Aside0.mk hJ
 have hxB := blk_cell hBk.out 0
 clear hr0 hB hW hW0 hY hJ
 have hu := Try.underlying33
 refine callsIn_of_wp Try.func20 rfl trivial ?_ rfl
 simp only [Try.ntmps20, List.size_toArray, List.length_cons, List.length_nil, Nat.reduceAdd, Nat.reduceSub, Array.replicate_succ, Array.replicate_zero, List.push_toArray, List.append_toArray, List.nil_append, List.cons_append]
 gi_wp2
 gi_loopw [3] (fun p wr => ∃ (k : Nat) (pre : List (api_Placed_1.It l0)), k ≤ l0.length ∧ p = .int .i64 ((l0.length : Int) - 1 - (k : Int)) ∧ J pre wr ∧ Aside0 (pre.map (·.1) = (api_Placed_1.all l0).take k) ∧ Aside0 (Below w.heap.size w wr) ∧ Aside0 (wr.heap[B]? = some (.cells #[.slice A0 l0.length c0] 22 (0, 0)))) (fun p _ => (intOf p + 1).toNat)
 case atStart =>
  refine ⟨0, [], by omega, ?_, h0, ⟨rfl⟩, HW, hBk⟩
  have h9 := HM.out
  first
   | (rw [show wrap64 ((l0.length : Int) - 1) = (l0.length : Int) - 1 - ((0 : Nat) : Int) from by unfold wrap64; omega]; done)
   | (congr 1; omega)
 case round =>
  obtain ⟨k, pre, hk, rfl, hJs, HP, HB, HK⟩ := hrel
  have HX := Aside0.mk (show l0.length ≤ 9223372036854775807 from HM.out)
  have hx := blk_cell HK.out 0
  by_cases hlt : k < l0.length
  ·have hpos : decide (0 ≤ (l0.length : Int) - 1 - (k : Int)) = true := decide_eq_true (by omega)
   have hpos2 : (0 : Int) ≤ (l0.length : Int) - 1 - (k : Int) := by omega
   have hlt2 : (l0.length : Int) - 1 - (k : Int) < (l0.length : Int) := by omega
   have hnat : ((l0.length : Int) - 1 - (k : Int)) = ((l0.length - 1 - k : Nat) : Int) := by omega
   obtain ⟨i, hi⟩ : ∃ i : Nat, i = l0.length - 1 - k := ⟨_, rfl⟩
   rw [← hi] at hnat
   have hil : i < l0.length := by omega
   rw [hnat] at hpos hpos2 hlt2 ⊢
   obtain ⟨ad, cc, rfl, hcl, hK, hcc⟩ := C_elem (Kd.C_below HR.out HB.out) i hil
   obtain ⟨x, hxx⟩ : ∃ x, x = l0[i] := ⟨_, rfl⟩
   rw [← hxx] at hK
   obtain rfl := k33_open hK
   have hcell0 : wr.cell? (ad.add (i * 2)) = some (.int .i64 x.f0) := hcc 0 _ rfl
   have hcell1 : wr.cell? ⟨(ad.add (i * 2)).block, (ad.add (i * 2)).off + 1, none⟩ = some (.int .i64 x.f1) := cell_add1 (by decide) (hcc 1 _ rfl)
   have HS := Aside0.mk (show (api_Placed_1.all l0).take (k + 1) = (api_Placed_1.all l0).take k ++ [(i, x)] from by rw [api_Placed_1.take_succ l0 k hlt, hxx]; subst hi; rfl)
   obtain ⟨it, hit⟩ : ∃ it : api_Placed_1.It l0, it.1 = (i, x) := ⟨⟨(i, x), by rw [List.getElem?_eq_getElem hil, hxx]⟩, rfl⟩
   obtain ⟨fn, tmps, assign, body, hy, hR⟩ := HY.out pre it wr hJs (by have h9 := congrArg List.length HP.out; rw [List.length_map, List.length_take, api_Placed_1.all_len] at h9; omega)
   simp only [api_Placed_1.encs, hit] at hy
   have HI := Aside0.mk hi
   have HIT := Aside0.mk hit
   clear hcl hK hcc hxx hi hnat hit
   gi_wp2
   refine ⟨open_wide.deep, hR.mono ?_⟩
   rintro e W3 (⟨rfl, hJ3, hk3⟩ | ⟨rfl, hJx3⟩)
   ·gi_wp2
    go_roundw
    case rel =>
     refine ⟨k + 1, pre ++ [it], by omega, ?_, hJ3, ⟨by rw [List.map_append, HP.out, HS.out, List.map_cons, List.map_nil, HIT.out]⟩, ⟨HB.out.trans hk3.1⟩, ⟨hk3.2.trans HK.out⟩⟩
     have h9 := HI.out
     have h8 := HX.out
     congr 1
     unfold wrap64
     omega
    case measure =>
     have h9 := HI.out
     have h8 := HX.out
     simp only [intOf]
     unfold wrap64
     simp
     omega
   ·gi_wp2
    refine bodyPost_ret (results_none rfl _ _ _) rfl ?_
    exact ⟨⟨_, rfl⟩, .inr ⟨pre ++ [it], by rw [List.map_append, HP.out, List.map_cons, List.map_nil, HIT.out, ← HS.out]; exact List.take_prefix _ _, hJx3⟩⟩
  ·have hpos : decide (0 ≤ (l0.length : Int) - 1 - (k : Int)) = false := decide_eq_false (by omega)
   have hpos2 : ¬ (0 : Int) ≤ (l0.length : Int) - 1 - (k : Int) := by omega
   have hJe := Aside0.mk (show ∃ xs : List (api_Placed_1.It l0), xs.map (·.1) = api_Placed_1.all l0 ∧ J xs wr from ⟨pre, by rw [HP.out, List.take_of_length_le (by rw [api_Placed_1.all_len]; omega)], hJs⟩)
   gi_wp2
   go_end0
   exact ⟨⟨_, rfl⟩, .inl hJe.out⟩

/-! ### api_Placed: function 19 -/
-- by hand
theorem api_Placed.calls (A0 : Option Addr) (n0 c0 : Nat) (w : World) :
  Calls Try.prog 19 #[.slice A0 n0 c0] w fun e w' => e = .returned (.func (.func 20) #[] #[.pointer (some ⟨w.heap.size, 0, none⟩)]) ∧ w' = w.alloc (.cells #[.slice A0 n0 c0] 22) := by
 go_enter Try.func19, Try.ntmps19
 go_wp2
 go_ret
 exact ⟨rfl, rfl⟩

end Go.Proofs.Ytpicbjcpdngmlaa.G
