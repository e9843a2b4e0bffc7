/- Contracts of the functions of this seat: what each call computes, as a plain Lean function. Made by this session's own generator. -/
import Derived.Test.YtihiiidbhhlfnaaGx0
import Derived.Test.YtihiiidbhhlfnaaGx4
import Derived.Test.YtihiiidbhhlfnaaGx6
namespace Go.Proofs.Ytihiiidbhhlfnaa.G
open Go.RowKit Go.Proofs.YtihiiidbhhlfnaaMy Go.Proofs.YtihiiidbhhlfnaaW.PrintWords Go.Proofs.YtihiiidbhhlfnaaW.PrintLast Go.Proofs.YtihiiidbhhlfnaaW.PrintMore
attribute [local go_sem] max2_int min2_int max_two min_two max_three min_three max_four min_four   -- for this text's walks alone
set_option linter.unusedVariables false
set_option linter.unusedSimpArgs false

/-! ### bytes_Equal: function 52 -/
def bytes_Equal.f (l0 : List Int) (l1 : List Int) : Option (Bool) := some ((strOfNums l0).toList == (strOfNums l1).toList)
set_option maxHeartbeats 8000000 in
set_option maxRecDepth 100000 in
theorem bytes_Equal.calls (A0 : Option Addr) (c0 : Nat) (l0 : List Int) (A1 : Option Addr) (c1 : Nat) (l1 : List Int) (r : Bool) (w : World) (hr0 : Kd.C (Kd.int .u8) w A0 l0.length l0) (hc0 : l0.length ≤ c0) (hr1 : Kd.C (Kd.int .u8) w A1 l1.length l1) (hc1 : l1.length ≤ c1) (h : bytes_Equal.f l0 l1 = some r) :
  Calls Try.prog 52 #[.slice A0 l0.length c0, .slice A1 l1.length c1] w fun e w' => e = .returned (.bool r) ∧ Drawn0 w w' := by
 have HR0 := Aside0.mk hr0
 have HC0 := Aside0.mk hc0
 clear hr0 hc0
 have HR1 := Aside0.mk hr1
 have HC1 := Aside0.mk hc1
 clear hr1 hc1
 have H : (some ((strOfNums l0).toList == (strOfNums l1).toList)) = some r := h
 clear h
 obtain rfl := Option.some.inj H
 have hcv3 := Kd.C_string (P := Try.prog) (A := A0) (c := c0) Try.underlying25 Try.underlying5 Try.underlying9 HR0.out
 have hcvq3 := fun n_ : Nat => Kd.C_string (P := Try.prog) (A := A0) (c := c0) Try.underlying25 Try.underlying5 Try.underlying9 (Kd.C_drewN HR0.out n_)
 have hcv4 := Kd.C_string (P := Try.prog) (A := A1) (c := c1) Try.underlying25 Try.underlying5 Try.underlying9 HR1.out
 have hcvq4 := fun n_ : Nat => Kd.C_string (P := Try.prog) (A := A1) (c := c1) Try.underlying25 Try.underlying5 Try.underlying9 (Kd.C_drewN HR1.out n_)
 go_enter Try.func52, Try.ntmps52
 go_wp2
 go_ret
 exact ⟨by first | rfl | (simp; done) | (simp [*]; done), by repeat (first | exact Drawn0.refl _ | apply Drawn0.step)⟩

/-! ### bytes_HasPrefix: function 43 -/
-- by hand
def bytes_HasPrefix.f (l0 l1 : List Int) : Option Bool := if l1.length ≤ l0.length then bytes_Equal.f (l0.take l1.length) l1 else some false
set_option maxHeartbeats 4000000 in
theorem bytes_HasPrefix.calls (A0 : Option Addr) (c0 : Nat) (l0 : List Int) (A1 : Option Addr) (c1 : Nat) (l1 : List Int) (r : Bool) (w : World) (hr0 : Kd.C (Kd.int .u8) w A0 l0.length l0) (hc0 : l0.length ≤ c0) (hr1 : Kd.C (Kd.int .u8) w A1 l1.length l1) (hc1 : l1.length ≤ c1) (h : bytes_HasPrefix.f l0 l1 = some r) :
  Calls Try.prog 43 #[.slice A0 l0.length c0, .slice A1 l1.length c1] w fun e w' => e = .returned (.bool r) ∧ Below w.heap.size w w' := by
 unfold bytes_HasPrefix.f at h
 have hm := hr0.2.1
 by_cases hl : l1.length ≤ l0.length
 ·rw [if_pos hl] at h
  obtain ⟨ys, hys⟩ : ∃ ys, ys = l0.take l1.length := ⟨_, rfl⟩
  obtain ⟨i0, hi0, _, hsz0, _⟩ := info_parts info5
  obtain ⟨T1, T2, T3⟩ := print_take_of (P := Try.prog) (Value.int .u8) 0 25 5 .i64 Try.underlying25 hi0 hsz0 A0 c0 l0 (l1.length : Int) (by omega) (by omega) hc0
  simp only [Int.toNat_natCast] at T1 T2 T3
  rw [← hys] at T1 T2 T3 h
  have HE := Aside0.mk (fun (W : World) (hB : Below w.heap.size w W) => bytes_Equal.calls A0 c0 ys A1 c1 l1 r W (Kd.C_below (Kd.C_of_reads (h1 := fun _ => rfl) (T2 _ (Kd.reads_of_C hr0))) hB) T3 (Kd.C_below hr1 hB) hc1 h)
  have hge : decide ((l1.length : Int) ≤ (l0.length : Int)) = true := decide_eq_true (by omega)
  have hge2 : decide (l1.length ≤ l0.length) = true := decide_eq_true hl
  clear T2 T3 hys hr0 hr1 hc0 hc1 h hl
  go_enter Try.func43, Try.ntmps43
  go_wp2_with (first | (go_at_call 52; (with_reducible refine (HE.out _ (Below.refl _ _)).mono ?_); rintro e w1 ⟨rfl, hd⟩; have HD := Aside0.mk hd; clear hd))
  go_ret
  exact ⟨rfl, by first | exact HD.out.below | exact HD.out⟩
 ·rw [if_neg hl] at h
  obtain rfl := Option.some.inj h
  have hge : decide ((l1.length : Int) ≤ (l0.length : Int)) = false := decide_eq_false (by omega)
  have hge2 : decide (l1.length ≤ l0.length) = false := decide_eq_false hl
  clear hr0 hr1 hc0 hc1 h hl
  go_enter Try.func43, Try.ntmps43
  go_wp2
  go_ret
  exact ⟨rfl, Below.refl _ _⟩

/-! ### bytes_CutPrefix: function 31 -/
-- by hand
theorem bytes_CutPrefix.has_len {l0 l1 : List Int} (h : bytes_HasPrefix.f l0 l1 = some true) : l1.length ≤ l0.length := by
 unfold bytes_HasPrefix.f at h
 by_cases hl : l1.length ≤ l0.length
 ·exact hl
 ·rw [if_neg hl] at h; cases h
set_option maxHeartbeats 4000000 in
theorem bytes_CutPrefix.calls (A0 : Option Addr) (c0 : Nat) (l0 : List Int) (A1 : Option Addr) (c1 : Nat) (l1 : List Int) (r : Bool) (w u : World) (hB : Below w.heap.size w u) (hr0 : Kd.C (Kd.int .u8) w A0 l0.length l0) (hc0 : l0.length ≤ c0) (hr1 : Kd.C (Kd.int .u8) u A1 l1.length l1) (hc1 : l1.length ≤ c1) (h : bytes_HasPrefix.f l0 l1 = some r) :
  Calls Try.prog 31 #[.slice A0 l0.length c0, .slice A1 l1.length c1] u fun e u' => (∃ A c, e = .returned (.tuple #[.slice A (if r = true then l0.drop l1.length else l0).length c, .bool r]) ∧ (if r = true then l0.drop l1.length else l0).length ≤ c ∧ Kd.C (Kd.int .u8) w A (if r = true then l0.drop l1.length else l0).length (if r = true then l0.drop l1.length else l0)) ∧ Below u.heap.size u u' := by
 have HP := Aside0.mk (bytes_HasPrefix.calls A0 c0 l0 A1 c1 l1 r u (Kd.C_below hr0 hB) hc0 hr1 hc1 h)
 have HR := Aside0.mk hr0
 have HC := Aside0.mk hc0
 have HH := Aside0.mk h
 clear hr0 hc0 hr1 hc1 h hB
 cases r with
 | false =>
  simp only [Bool.false_eq_true, if_false]
  go_enter Try.func31, Try.ntmps31
  go_wp2_with (first | (go_at_call 43; (with_reducible refine HP.out.mono ?_); rintro e w1 ⟨rfl, hd⟩; have HD := Aside0.mk hd; clear hd))
  go_ret2
  exact ⟨⟨_, _, rfl, HC.out, HR.out⟩, HD.out⟩
 | true =>
  have hlen := bytes_CutPrefix.has_len HH.out
  have hm := HR.out.2.1
  obtain ⟨zs, hzs⟩ : ∃ zs, zs = l0.drop l1.length := ⟨_, rfl⟩
  obtain ⟨i0, hi0, _, hsz0, _⟩ := info_parts info5
  obtain ⟨A2, D1, D2, D3⟩ := print_drop_of (P := Try.prog) (Value.int .u8) 0 25 5 .i64 Try.underlying25 hi0 hsz0 A0 c0 l0 (l1.length : Int) (by omega) (by omega) HC.out
  simp only [Int.toNat_natCast] at D1 D2 D3
  rw [← hzs] at D1 D2 D3
  simp only [if_true]
  rw [← hzs]
  have HCz := Aside0.mk (show Kd.C (Kd.int .u8) w A2 zs.length zs from Kd.C_of_reads (h1 := fun _ => rfl) (D2 _ (Kd.reads_of_C HR.out)))
  have HD3 := Aside0.mk D3
  clear D2 D3 hzs
  go_enter Try.func31, Try.ntmps31
  go_wp2_with (first | (go_at_call 43; (with_reducible refine HP.out.mono ?_); rintro e w1 ⟨rfl, hd⟩; have HD := Aside0.mk hd; clear hd))
  go_ret2
  exact ⟨⟨_, _, rfl, HD3.out, HCz.out⟩, HD.out⟩

/-! ### ship_in_byte: function 32 -/
-- by hand
theorem ship_in_byte.cell0 {w : World} {A : Option Addr} {b : Int} (h : Kd.C (Kd.int .u8) w A [b].length [b]) : ∃ ad, A = some ad ∧ w.cell? ad = some (.int .u8 b) := by
 obtain ⟨ad, cc, e, _, hK, hcc⟩ := C_elem h 0 (by simp)
 obtain rfl : cc = [.int .u8 b] := hK
 refine ⟨ad, e, ?_⟩
 have hcell : w.cell? (ad.add 0) = some (.int .u8 b) := hcc 0 _ rfl
 rwa [show ad.add 0 = ad from by cases ad with | mk b o s => cases s <;> simp [Addr.add]] at hcell
set_option maxHeartbeats 4000000 in
theorem ship_in_byte.calls (xs : List Int) (g : Nat) (w u : World) (hB : Below w.heap.size w u) (hb : w.heap.size ≤ g) (h : ship_in_take.Holds w u g xs) :
  Calls Try.prog 32 #[.pointer (some ⟨g, 0, none⟩)] u fun e u' => (∃ b l, xs = b :: l ∧ e = .returned (.int .i64 (wrap64 b)) ∧ ship_in_take.Holds w u' g l ∧ Below w.heap.size w u' ∧ ship_in_take.Stays g u u') ∨ (xs = [] ∧ e = .panicked ship_in_take.lost ∧ Below w.heap.size w u' ∧ ship_in_take.Stays g u u') := by
 have HT := Aside0.mk (show Calls Try.prog 44 #[.pointer (some ⟨g, 0, none⟩), .int .i64 1] u _ from ship_in_take.calls 1 xs g w u hB hb h (by decide))
 clear h hB
 have hcase : xs = [] ∨ ∃ b l, xs = b :: l := by cases xs with | nil => exact .inl rfl | cons b l => exact .inr ⟨b, l, rfl⟩
 rcases hcase with hx | ⟨b, l, hx⟩
 ·have HX := Aside0.mk hx
  clear hx
  go_enter Try.func32, Try.ntmps32
  go_wp2_with (first | (go_at_call 44; (with_reducible refine HT.out.mono ?_); rintro e w1 (⟨hl, _⟩ | ⟨_, rfl, hb1, hs1⟩); (· have := HX.out; subst this; exact absurd hl (by simp)); exact ⟨rfl, .inr ⟨HX.out, rfl, hb1, hs1⟩⟩))
 ·have HX := Aside0.mk hx
  clear hx
  go_enter Try.func32, Try.ntmps32
  go_wp2_with (first | (go_at_call 44; (with_reducible refine HT.out.mono ?_); rintro e w1 (⟨_, ⟨A, c, rfl, hc1, hC1⟩, hh1, hb1, hs1⟩ | ⟨hl, _⟩); rotate_left; (· have := HX.out; subst this; exact absurd hl (by simp)); rw [show xs.take 1 = [b] by rw [HX.out]; rfl] at hC1; rw [show xs.take 1 = [b] by rw [HX.out]; rfl]; rw [show xs.drop 1 = l by rw [HX.out]; rfl] at hh1; have hcell := ship_in_byte.cell0 hC1; obtain ⟨ad, rfl, hcell⟩ := hcell; have HH1 := Aside0.mk hh1; have HB1 := Aside0.mk hb1; have HS1 := Aside0.mk hs1; clear hc1 hC1 hh1 hb1 hs1))
  go_ret
  exact .inl ⟨b, l, HX.out, rfl, HH1.out, HB1.out, HS1.out⟩
def ship_in_byte.P {β : Type} (xs : List Int) (f : Int → List Int → Option (Option β)) : Option (Option β) :=
 match xs with
 | [] => some none
 | b :: l => f (wrap64 b) l
theorem ship_in_byte.cps {β : Type} (f : Int → List Int → Option (Option β)) (o : Option β) (xs : List Int) (g : Nat) (w u : World) (hB : Below w.heap.size w u) (hb : w.heap.size ≤ g) (h : ship_in_take.Holds w u g xs) (H : ship_in_byte.P xs f = some o) :
  Calls Try.prog 32 #[.pointer (some ⟨g, 0, none⟩)] u fun e u' => (∃ b l, f b l = some o ∧ e = .returned (.int .i64 b) ∧ ship_in_take.Holds w u' g l ∧ Below w.heap.size w u' ∧ ship_in_take.Stays g u u') ∨ (o = none ∧ e = .panicked ship_in_take.lost ∧ Below w.heap.size w u' ∧ ship_in_take.Stays g u u') := by
 refine (ship_in_byte.calls xs g w u hB hb h).mono ?_
 rintro e w' (⟨b, l, rfl, h1, h2, h3, h4⟩ | ⟨rfl, h1, h2, h3⟩)
 ·exact .inl ⟨_, _, H, h1, h2, h3, h4⟩
 ·exact .inr ⟨(Option.some.inj H).symm, h1, h2, h3⟩

/-! ### pack_Take: function 54 -/
mutual
def pack_Take.j0 : Nat → List Int → Int → Bool → Option (Int × List Int × Int)
 | 0, _, _, _ => none
 | k + 1, x0, x1, x17 => if x17 = true then (some (0, ([] : List Int), 60)) else (pack_Take.l0 k x0 x1 0 x1 0)
def pack_Take.l0 : Nat → List Int → Int → Int → Int → Int → Option (Int × List Int × Int)
 | 0, _, _, _, _, _ => none
 | k + 1, x0, x1, x7, x18, x19 => if x19 < x18 then (if 0 ≤ x19 then (if x19 < (x0.length : Int) then (pack_Take.l0 k x0 x1 (Go.bits .or .i64 (wrap64 (x7 * 256)) (wrap64 (rd x0 x19))) x18 (wrap64 (x19 + 1))) else (none)) else (none)) else (if 0 ≤ x1 then (if x1 ≤ (x0.length : Int) then ((bytes_Clone.f (x0.drop (x1 : Int).toNat)).bind fun t128 => (some (x7, t128, 0))) else (none)) else (none))
end
def pack_Take.f (k : Nat) (l0 : List Int) (a1 : Int) : Option (Int × List Int × Int) := (pack_sized.f a1).bind fun t125 => (if t125 = true then (pack_Take.j0 k l0 a1 (decide ((l0.length : Int) < a1))) else (pack_Take.j0 k l0 a1 true))
theorem pack_Take.mono_l : ∀ k, (∀ y0 y1 y2, LeO (pack_Take.j0 k y0 y1 y2) (pack_Take.j0 (k + 1) y0 y1 y2)) ∧ (∀ y0 y1 y2 y3 y4, LeO (pack_Take.l0 k y0 y1 y2 y3 y4) (pack_Take.l0 (k + 1) y0 y1 y2 y3 y4))
 | 0 => ⟨fun _ _ _ r h => by simp [pack_Take.j0] at h, fun _ _ _ _ _ r h => by simp [pack_Take.l0] at h⟩
 | k + 1 => by
  obtain ⟨ih0, ih1⟩ := pack_Take.mono_l k
  refine ⟨?_, ?_⟩
  ·intro y0 y1 y2
   unfold pack_Take.j0
   repeat' first
   | (with_reducible exact ih0 _ _ _)
   | (with_reducible exact ih1 _ _ _ _ _)
   | (with_reducible exact LeO.refl _)
   | (with_reducible exact LeO.none _)
   | (with_reducible refine LeO.ite ?_ ?_)
   | (with_reducible refine LeO.bind ?_ (fun _ => ?_))
   | exact ih0 _ _ _
   | exact ih1 _ _ _ _ _
   | exact LeO.none _
   | refine LeO.ite ?_ ?_
   | refine LeO.bind ?_ (fun _ => ?_)
  ·intro y0 y1 y2 y3 y4
   unfold pack_Take.l0
   repeat' first
   | (with_reducible exact ih0 _ _ _)
   | (with_reducible exact ih1 _ _ _ _ _)
   | (with_reducible exact LeO.refl _)
   | (with_reducible exact LeO.none _)
   | (with_reducible refine LeO.ite ?_ ?_)
   | (with_reducible refine LeO.bind ?_ (fun _ => ?_))
   | exact ih0 _ _ _
   | exact ih1 _ _ _ _ _
   | exact LeO.none _
   | refine LeO.ite ?_ ?_
   | refine LeO.bind ?_ (fun _ => ?_)
theorem pack_Take.mono : ∀ a0 a1 k, LeO (pack_Take.f k a0 a1) (pack_Take.f (k + 1) a0 a1) := by
 intro a0 a1 k
 obtain ⟨ih0, ih1⟩ := pack_Take.mono_l k
 unfold pack_Take.f
 repeat' first
   | (with_reducible exact ih0 _ _ _)
   | (with_reducible exact ih1 _ _ _ _ _)
   | (with_reducible exact LeO.refl _)
   | (with_reducible exact LeO.none _)
   | (with_reducible refine LeO.ite ?_ ?_)
   | (with_reducible refine LeO.bind ?_ (fun _ => ?_))
   | exact ih0 _ _ _
   | exact ih1 _ _ _ _ _
   | exact LeO.none _
   | refine LeO.ite ?_ ?_
   | refine LeO.bind ?_ (fun _ => ?_)
set_option maxHeartbeats 8000000 in
set_option maxRecDepth 100000 in
theorem pack_Take.calls (k : Nat) (A0 : Option Addr) (c0 : Nat) (l0 : List Int) (a1 : Int) (r1 : Int) (r2 : List Int) (r3 : Int) (w : World) (hr0 : Kd.C (Kd.int .u8) w A0 l0.length l0) (hc0 : l0.length ≤ c0) (h : pack_Take.f k l0 a1 = some (r1, r2, r3)) :
  Calls Try.prog 54 #[.slice A0 l0.length c0, .int .i64 a1] w fun e w' => ∃ v1_ : Value, e = .returned (.tuple #[.int .i64 r1, v1_, .int .i64 r3]) ∧ Kd.R (Kd.int .u8) 5 w' w.heap.size (fun _ => True) v1_ r2 ∧ Below w.heap.size w w' := by
 have HR0 := Aside0.mk hr0
 have HC0 := Aside0.mk hc0
 clear hr0 hc0
 have HB := Aside0.mk (Below.refl w.heap.size w)
 have H : ((pack_sized.f a1).bind fun t125 => (if t125 = true then (pack_Take.j0 k l0 a1 (decide ((l0.length : Int) < a1))) else (pack_Take.j0 k l0 a1 true))) = some (r1, r2, r3) := h
 clear h
 have HC3 := Aside0.mk H
 clear H
 go_enter Try.func54, Try.ntmps54
 go_upto_region 1 with (fail)
 go_cut [17] (fun v17 wc => ∃ (kq : Nat) (x17_2 : Bool), v17 = .bool x17_2 ∧ Aside0 (pack_Take.j0 kq l0 a1 x17_2 = some (r1, r2, r3)) ∧ Aside0 (kq ≤ k) ∧ Aside0 (Below w.heap.size w wc))
 case first =>
  have H := HC3.out
  clear HC3
  replace H := Option.bind_eq_some_iff.mp H
  obtain ⟨t125, A40, H⟩ := H
  replace H : (if t125 = true then (pack_Take.j0 k l0 a1 (decide ((l0.length : Int) < a1))) else (pack_Take.j0 k l0 a1 true)) = some (r1, r2, r3) := H
  have A4 := Aside0.mk A40
  clear A40
  by_cases c5 : t125 = true
  ·subst c5
   have H1 : (pack_Take.j0 k l0 a1 (decide ((l0.length : Int) < a1))) = some (r1, r2, r3) := by rw [if_pos rfl] at H; exact H
   clear H
   have H := H1
   clear H1
   have H' := Aside0.mk H
   clear H
   go_wp2_with (first | ((with_reducible refine gate_callee (f := 49) rfl ?_); refine goesL_ (some 10) rfl rfl Try.func49 (by kernel_rfl) rfl #[.int .i64 a1] rfl (by (try simp only [List.map_toArray, List.map_cons, List.map_nil]); first | done | rfl | (simp only [List.length_drop, List.length_take]; rfl)) ?_; (with_reducible refine (pack_sized.calls a1 true _ A4.out).mono ?_); rintro e w' ⟨rfl, ⟨nd, rfl⟩⟩; refine ⟨_, rfl, ?_⟩))
   go_meet
   case rel => exact ⟨_, (decide ((l0.length : Int) < a1)), (by first | rfl | (simp; done) | (simp [*]; done)), H', ⟨by first | omega | exact Nat.le_refl _⟩, ⟨by repeat (first | (with_reducible first | exact HB.out | apply below_alloc | apply pw_below_drewN | apply below_drew1) | exact HB.out)⟩⟩
  ·replace c5 := Bool.eq_false_iff.mpr c5
   subst c5
   have H1 : (pack_Take.j0 k l0 a1 true) = some (r1, r2, r3) := by rw [if_neg (show ¬ (false = true) by decide)] at H; exact H
   clear H
   have H := H1
   clear H1
   have H' := Aside0.mk H
   clear H
   go_wp2_with (first | ((with_reducible refine gate_callee (f := 49) rfl ?_); refine goesL_ (some 10) rfl rfl Try.func49 (by kernel_rfl) rfl #[.int .i64 a1] rfl (by (try simp only [List.map_toArray, List.map_cons, List.map_nil]); first | done | rfl | (simp only [List.length_drop, List.length_take]; rfl)) ?_; (with_reducible refine (pack_sized.calls a1 false _ A4.out).mono ?_); rintro e w' ⟨rfl, ⟨nd, rfl⟩⟩; refine ⟨_, rfl, ?_⟩))
   go_meet
   case rel => exact ⟨_, (true), (by first | rfl | (simp; done) | (simp [*]; done)), H', ⟨by first | omega | exact Nat.le_refl _⟩, ⟨by repeat (first | (with_reducible first | exact HB.out | apply below_alloc | apply pw_below_drewN | apply below_drew1) | exact HB.out)⟩⟩
 case rest =>
  clear HC3
  try clear p2
  try clear c4
  try clear c5
  obtain ⟨kq, x17_2, rfl, HA, HJ2, HB⟩ := hcut
  cases kq with
  | zero => exact absurd HA.out (by simp [pack_Take.j0])
  | succ kj2 =>
   have H := HA.out
   clear HA
   simp only [pack_Take.j0] at H
   by_cases c6 : x17_2 = true
   ·subst c6
    have H1 : (some (0, ([] : List Int), 60)) = some (r1, r2, r3) := by rw [if_pos rfl] at H; exact H
    clear H
    have H := H1
    clear H1
    simp only [Option.some.injEq, Prod.mk.injEq] at H
    obtain ⟨rfl, rfl, rfl⟩ := H
    go_wp2
    go_ret3
    exact ⟨_, by first | rfl | (simp [errW_none, errW_some] <;> rfl) | (simp [*, errW_none, errW_some] <;> rfl), by first | exact Kd.R_nil _ _ _ _ _ | exact Kd.N_nil _ _ _ _ _ | exact Kd.V_nil _ _ _ _ _ | exact Kd.Q_nil _ _ _ _ _ | exact Kd.S_nil _ _ _ _ _, by repeat (first | (with_reducible first | exact HB.out | apply below_alloc | apply pw_below_drewN | apply below_drew1) | exact HB.out)⟩
   ·replace c6 := Bool.eq_false_iff.mpr c6
    subst c6
    have H1 : (pack_Take.l0 kj2 l0 a1 0 a1 0) = some (r1, r2, r3) := by rw [if_neg (show ¬ (false = true) by decide)] at H; exact H
    clear H
    have H := H1
    clear H1
    have H' := Aside0.mk H
    clear H
    go_wp2
    go_loopg [7, 19] kj2 (fun kq v7 v19 w' => ∃ (x7_2 : Int) (x19_2 : Int), v7 = .int .i64 x7_2 ∧ v19 = .int .i64 x19_2 ∧ Aside0 (pack_Take.l0 kq l0 a1 x7_2 a1 x19_2 = some (r1, r2, r3)) ∧ Aside0 (kq ≤ kj2) ∧ Aside0 (Below w.heap.size w w'))
    case atStart => exact ⟨(0), (0), (by first | rfl | (simp; done) | (simp [*]; done)), (by first | rfl | (simp; done) | (simp [*]; done)), H', ⟨Nat.le_refl _⟩, ⟨by repeat (first | (with_reducible first | exact HB.out | apply below_alloc | apply pw_below_drewN | apply below_drew1) | exact HB.out)⟩⟩
    case round =>
     clear H'
     try clear p2
     try clear c4
     try clear c5
     try clear c6
     try clear p2
     obtain ⟨x7_2, x19_2, rfl, rfl, HA, HK2, HB⟩ := hrel
     cases gk with
     | zero => exact absurd HA.out (by simp [pack_Take.l0])
     | succ k2 =>
      have H := HA.out
      clear HA
      simp only [pack_Take.l0] at H
      by_cases c7 : x19_2 < a1
      ·rw [if_pos c7] at H
       have c7b0 : decide (x19_2 < a1) = true := decide_eq_true c7
       clear c7
       by_cases c8 : 0 ≤ x19_2
       ·rw [if_pos c8] at H
        have c8b0 : decide (0 ≤ x19_2) = true := decide_eq_true c8
        clear c8
        by_cases c9 : x19_2 < (l0.length : Int)
        ·rw [if_pos c9] at H
         have c9b0 : decide (x19_2 < (l0.length : Int)) = true := decide_eq_true c9
         clear c9
         have H' := Aside0.mk H
         clear H
         have p126 : 0 ≤ (x19_2 : Int) := odt
         have q126 : x19_2 < (l0.length : Int) := odt
         obtain ⟨ad126, e126, hx126_0⟩ := Kd.at_int HR0.out x19_2 p126 q126
         cases e126
         replace hx126_0 := (HB.out.cell (World.block_lt_of_cell? w _ hx126_0)).trans hx126_0
         replace p126 := eq_true p126
         replace q126 := eq_true q126
         go_wp2
         go_roundg k2
         case measure => have := HJ2.out; have := HK2.out; omega
         case rel => exact ⟨(Go.bits .or .i64 (wrap64 (x7_2 * 256)) (wrap64 (rd l0 x19_2))), (wrap64 (x19_2 + 1)), (by first | rfl | (simp; done) | (simp [*]; done)), (by first | rfl | (simp; done) | (simp [*]; done)), H', ⟨by have := HJ2.out; have := HK2.out; omega⟩, ⟨by repeat (first | (with_reducible first | exact HB.out | apply below_alloc | apply pw_below_drewN | apply below_drew1) | exact HB.out)⟩⟩
        ·rw [if_neg c9] at H
         exact absurd H (by simp)
       ·rw [if_neg c8] at H
        exact absurd H (by simp)
      ·rw [if_neg c7] at H
       have c7b0 : decide (x19_2 < a1) = false := decide_eq_false c7
       clear c7
       by_cases c10 : 0 ≤ a1
       ·rw [if_pos c10] at H
        have c10b0 := eq_true c10
        have c10b1 : decide (0 ≤ a1) = true := decide_eq_true c10
        clear c10
        by_cases c11 : a1 ≤ (l0.length : Int)
        ·rw [if_pos c11] at H
         have c11b0 := eq_true c11
         have c11b1 : decide (a1 ≤ (l0.length : Int)) = true := decide_eq_true c11
         clear c11
         replace H := Option.bind_eq_some_iff.mp H
         obtain ⟨t128, A120, H⟩ := H
         replace H : (some (x7_2, t128, 0)) = some (r1, r2, r3) := H
         have A12 := Aside0.mk A120
         clear A120
         simp only [Option.some.injEq, Prod.mk.injEq] at H
         obtain ⟨rfl, rfl, rfl⟩ := H
         obtain ⟨i013, hi013, _, hsz13, _⟩ := info_parts info5
         obtain ⟨A13, hcut13, hA13, hC13⟩ := print_drop_of (P := Try.prog) (Value.int .u8) 0 25 5 .i64 Try.underlying25 hi013 hsz13 A0 c0 l0 a1 (odt) (odt) HC0.out
         have HR127 := Aside0.mk (Kd.C_of_reads (h1 := fun _ => rfl) (hA13 _ (Kd.reads_of_C HR0.out)))
         have HC127 := Aside0.mk hC13
         clear hA13 hC13 hi013 hsz13
         go_wp2_with (first | ((with_reducible refine gate_callee (f := 50) rfl ?_); refine goesL_ (some 35) rfl rfl Try.func50 (by kernel_rfl) rfl #[.slice A13 (l0.drop (a1 : Int).toNat).length (c0 - a1.toNat)] rfl (by (try simp only [List.map_toArray, List.map_cons, List.map_nil]); first | done | (rw [show (l0.drop (a1 : Int).toNat).length = (l0.length - a1.toNat) from List.length_drop] <;> rfl) | rfl | (simp only [List.length_drop, List.length_take]; rfl)) ?_; (with_reducible refine (bytes_Clone.calls _ _ (l0.drop (a1 : Int).toNat) t128 _ ?side1 ?side2 A12.out).mono ?_); (case side1 => repeat (first | exact (Kd.C_below HR127.out HB.out) | (with_reducible apply Kd.C_alloc) | (with_reducible apply Kd.C_drewN) | (with_reducible apply Kd.C_drew))); (case side2 => exact HC127.out); rintro e w14 ⟨v129, rfl, ho0, hb⟩; refine ⟨_, rfl, ?_⟩; have n0_ := Aside0.mk (Kd.R_lower ho0 (below_size (by repeat (first | (with_reducible first | exact HB.out | apply below_alloc | apply pw_below_drewN | apply below_drew1) | exact HB.out)))); have n1_ := Aside0.mk (below_step (by repeat (first | (with_reducible first | exact HB.out | apply below_alloc | apply pw_below_drewN | apply below_drew1) | exact HB.out)) hb); clear HB; have HO130 := n0_; have HB := n1_; clear n0_ n1_; (try clear hb); (try clear hb2); (try clear hk); (try clear hi); (try clear ho0)))
         go_ret3
         exact ⟨_, by first | rfl | (simp [errW_none, errW_some] <;> rfl) | (simp [*, errW_none, errW_some] <;> rfl), by (with_reducible repeat (first | apply Kd.R_alloc | apply Kd.R_drewN | apply Kd.R_drew)); exact HO130.out, by repeat (first | (with_reducible first | exact HB.out | apply below_alloc | apply pw_below_drewN | apply below_drew1) | exact HB.out)⟩
        ·rw [if_neg c11] at H
         exact absurd H (by simp)
       ·rw [if_neg c10] at H
        exact absurd H (by simp)

/-! ### pack_TakeFix: function 53 -/
-- by hand
def pack_TakeFix.f (k : Nat) (l0 : List Int) : Option (Int × List Int × Int) := (pack_Take.f k l0 4).bind fun b => some (wrap64 (wrap32 (b.1 % 4294967296)), b.2.1, b.2.2)
theorem pack_TakeFix.mono : ∀ a0 k, LeO (pack_TakeFix.f k a0) (pack_TakeFix.f (k + 1) a0) := by
 intro a0 k
 unfold pack_TakeFix.f
 exact LeO.bind (pack_Take.mono _ _ _) (fun _ => LeO.refl _)
set_option maxHeartbeats 4000000 in
theorem pack_TakeFix.calls (k : Nat) (A0 : Option Addr) (c0 : Nat) (l0 : List Int) (r1 : Int) (r2 : List Int) (r3 : Int) (w : World) (hr0 : Kd.C (Kd.int .u8) w A0 l0.length l0) (hc0 : l0.length ≤ c0) (h : pack_TakeFix.f k l0 = some (r1, r2, r3)) :
  Calls Try.prog 53 #[.slice A0 l0.length c0] w fun e w' => ∃ v1_ : Value, e = .returned (.tuple #[.int .i64 r1, v1_, .int .i64 r3]) ∧ Kd.R (Kd.int .u8) 5 w' w.heap.size (fun _ => True) v1_ r2 ∧ Below w.heap.size w w' := by
 have HR0 := Aside0.mk hr0
 have HC0 := Aside0.mk hc0
 clear hr0 hc0
 unfold pack_TakeFix.f at h
 obtain ⟨⟨b1, b2, b3⟩, hT, h⟩ := Option.bind_eq_some_iff.mp h
 simp only [Option.some.injEq, Prod.mk.injEq] at h
 obtain ⟨rfl, rfl, rfl⟩ := h
 have H := Aside0.mk hT
 clear hT
 go_enter Try.func53, Try.ntmps53
 go_wp2_with (first | (go_at_call 48; (with_reducible refine (pack_ways.calls _).mono ?_); rintro e w' ⟨rfl, rfl⟩) | (go_at_call 57; (with_reducible refine (pack_ways.c2 _ _).mono ?_); rintro e w' ⟨rfl, rfl⟩) | (go_at_call 54; (with_reducible refine (pack_Take.calls k A0 c0 l0 4 b1 b2 b3 _ HR0.out HC0.out H.out).mono ?_); rintro e w' ⟨v0, rfl, hr, hb⟩))
 go_ret3
 exact ⟨_, rfl, hr, hb⟩


/-! ### ship_in_fix: function 45 -/
-- by hand
set_option maxHeartbeats 4000000 in
theorem ship_in_fix.calls (k : Nat) (xs : List Int) (r1 : Int) (r2 : List Int) (r3 : Int) (g : Nat) (w u : World) (hB : Below w.heap.size w u) (hb : w.heap.size ≤ g) (h : ship_in_take.Holds w u g xs) (hp : 4 ≤ xs.length → pack_TakeFix.f k (xs.take 4) = some (r1, r2, r3)) :
  Calls Try.prog 45 #[.pointer (some ⟨g, 0, none⟩)] u fun e u' => (4 ≤ xs.length ∧ e = .returned (.int .i64 r1) ∧ ship_in_take.Holds w u' g (xs.drop 4) ∧ Below w.heap.size w u' ∧ ship_in_take.Stays g u u') ∨ (xs.length < 4 ∧ e = .panicked ship_in_take.lost ∧ Below w.heap.size w u' ∧ ship_in_take.Stays g u u') := by
 have HT := Aside0.mk (show Calls Try.prog 44 #[.pointer (some ⟨g, 0, none⟩), .int .i64 4] u _ from ship_in_take.calls 4 xs g w u hB hb h (by decide))
 have HP := Aside0.mk hp
 clear h hp hB
 by_cases hlt : 4 ≤ xs.length
 ·have HX := Aside0.mk hlt
  obtain ⟨ys, hys⟩ : ∃ ys, ys = xs.take 4 := ⟨_, rfl⟩
  have HT2 := HT.out
  have hp2 := HP.out hlt
  rw [← hys] at HT2 hp2
  clear HT HP
  have HT := Aside0.mk HT2
  have HP := Aside0.mk hp2
  clear hlt HT2 hp2 hys
  go_enter Try.func45, Try.ntmps45
  go_wp2_with (first | (go_at_call 44; (with_reducible refine HT.out.mono ?_); rintro e w1 (⟨_, ⟨A, c, rfl, hc1, hC1⟩, hh1, hb1, hs1⟩ | ⟨hl, _⟩); rotate_left; (· have := HX.out; exact absurd hl (by omega)); have HC1 := Aside0.mk hC1; have HC2 := Aside0.mk hc1; have HH1 := Aside0.mk hh1; have HB1 := Aside0.mk hb1; have HS1 := Aside0.mk hs1; clear hc1 hC1 hh1 hb1 hs1) | (go_at_call 53; (with_reducible refine (pack_TakeFix.calls k A c ys r1 r2 r3 _ HC1.out HC2.out HP.out).mono ?_); rintro e w2 ⟨v, rfl, _, hb2⟩; have HB2 := Aside0.mk hb2; clear hb2))
  go_ret
  exact .inl ⟨HX.out, rfl, ship_in_take.holds_below HH1.out HB2.out, below_step HB1.out HB2.out, ship_in_take.stays_t HS1.out (ship_in_take.stays_below HB2.out)⟩
 ·have HX := Aside0.mk hlt
  clear hlt
  go_enter Try.func45, Try.ntmps45
  go_wp2_with (first | (go_at_call 44; (with_reducible refine HT.out.mono ?_); rintro e w1 (⟨hl, _⟩ | ⟨_, rfl, hb1, hs1⟩); (· exact absurd hl HX.out); exact ⟨rfl, .inr ⟨by have := HX.out; omega, rfl, hb1, hs1⟩⟩))
def ship_in_fix.P {β : Type} (k : Nat) (xs : List Int) (f : Int → List Int → Option (Option β)) : Option (Option β) :=
 if 4 ≤ xs.length then (pack_TakeFix.f k (xs.take 4)).bind fun r => f r.1 (xs.drop 4) else some none
theorem ship_in_fix.cps {β : Type} (k : Nat) (f : Int → List Int → Option (Option β)) (o : Option β) (xs : List Int) (g : Nat) (w u : World) (hB : Below w.heap.size w u) (hb : w.heap.size ≤ g) (h : ship_in_take.Holds w u g xs) (H : ship_in_fix.P k xs f = some o) :
  Calls Try.prog 45 #[.pointer (some ⟨g, 0, none⟩)] u fun e u' => (∃ b l, f b l = some o ∧ e = .returned (.int .i64 b) ∧ ship_in_take.Holds w u' g l ∧ Below w.heap.size w u' ∧ ship_in_take.Stays g u u') ∨ (o = none ∧ e = .panicked ship_in_take.lost ∧ Below w.heap.size w u' ∧ ship_in_take.Stays g u u') := by
 unfold ship_in_fix.P at H
 by_cases hl : 4 ≤ xs.length
 ·rw [if_pos hl] at H
  obtain ⟨⟨r1, r2, r3⟩, hr, H⟩ := Option.bind_eq_some_iff.mp H
  refine (ship_in_fix.calls k xs r1 r2 r3 g w u hB hb h (fun _ => hr)).mono ?_
  rintro e w' (⟨_, h1, h2, h3, h4⟩ | ⟨h0, _⟩)
  ·exact .inl ⟨_, _, H, h1, h2, h3, h4⟩
  ·omega
 ·rw [if_neg hl] at H
  refine (ship_in_fix.calls k xs 0 [] 0 g w u hB hb h (fun h => absurd h hl)).mono ?_
  rintro e w' (⟨h0, _⟩ | ⟨_, h1, h2, h3⟩)
  ·exact absurd h0 hl
  ·exact .inr ⟨(Option.some.inj H).symm, h1, h2, h3⟩

/-! ### ship_in_two: function 46 -/
-- by hand
set_option maxHeartbeats 4000000 in
theorem ship_in_two.calls (k : Nat) (xs : List Int) (r1 : Int) (r2 : List Int) (r3 : Int) (g : Nat) (w u : World) (hB : Below w.heap.size w u) (hb : w.heap.size ≤ g) (h : ship_in_take.Holds w u g xs) (hp : 2 ≤ xs.length → pack_Take.f k (xs.take 2) 2 = some (r1, r2, r3)) :
  Calls Try.prog 46 #[.pointer (some ⟨g, 0, none⟩)] u fun e u' => (2 ≤ xs.length ∧ e = .returned (.int .i64 r1) ∧ ship_in_take.Holds w u' g (xs.drop 2) ∧ Below w.heap.size w u' ∧ ship_in_take.Stays g u u') ∨ (xs.length < 2 ∧ e = .panicked ship_in_take.lost ∧ Below w.heap.size w u' ∧ ship_in_take.Stays g u u') := by
 have HT := Aside0.mk (show Calls Try.prog 44 #[.pointer (some ⟨g, 0, none⟩), .int .i64 2] u _ from ship_in_take.calls 2 xs g w u hB hb h (by decide))
 have HP := Aside0.mk hp
 clear h hp hB
 by_cases hlt : 2 ≤ xs.length
 ·have HX := Aside0.mk hlt
  obtain ⟨ys, hys⟩ : ∃ ys, ys = xs.take 2 := ⟨_, rfl⟩
  have HT2 := HT.out
  have hp2 := HP.out hlt
  rw [← hys] at HT2 hp2
  clear HT HP
  have HT := Aside0.mk HT2
  have HP := Aside0.mk hp2
  clear hlt HT2 hp2 hys
  go_enter Try.func46, Try.ntmps46
  go_wp2_with (first | (go_at_call 44; (with_reducible refine HT.out.mono ?_); rintro e w1 (⟨_, ⟨A, c, rfl, hc1, hC1⟩, hh1, hb1, hs1⟩ | ⟨hl, _⟩); rotate_left; (· have := HX.out; exact absurd hl (by omega)); have HC1 := Aside0.mk hC1; have HC2 := Aside0.mk hc1; have HH1 := Aside0.mk hh1; have HB1 := Aside0.mk hb1; have HS1 := Aside0.mk hs1; clear hc1 hC1 hh1 hb1 hs1) | (go_at_call 54; (with_reducible refine (pack_Take.calls k A c ys 2 r1 r2 r3 _ HC1.out HC2.out HP.out).mono ?_); rintro e w2 ⟨v, rfl, _, hb2⟩; have HB2 := Aside0.mk hb2; clear hb2))
  go_ret
  exact .inl ⟨HX.out, rfl, ship_in_take.holds_below HH1.out HB2.out, below_step HB1.out HB2.out, ship_in_take.stays_t HS1.out (ship_in_take.stays_below HB2.out)⟩
 ·have HX := Aside0.mk hlt
  clear hlt
  go_enter Try.func46, Try.ntmps46
  go_wp2_with (first | (go_at_call 44; (with_reducible refine HT.out.mono ?_); rintro e w1 (⟨hl, _⟩ | ⟨_, rfl, hb1, hs1⟩); (· exact absurd hl HX.out); exact ⟨rfl, .inr ⟨by have := HX.out; omega, rfl, hb1, hs1⟩⟩))
def ship_in_two.P {β : Type} (k : Nat) (xs : List Int) (f : Int → List Int → Option (Option β)) : Option (Option β) :=
 if 2 ≤ xs.length then (pack_Take.f k (xs.take 2) 2).bind fun r => f r.1 (xs.drop 2) else some none
theorem ship_in_two.cps {β : Type} (k : Nat) (f : Int → List Int → Option (Option β)) (o : Option β) (xs : List Int) (g : Nat) (w u : World) (hB : Below w.heap.size w u) (hb : w.heap.size ≤ g) (h : ship_in_take.Holds w u g xs) (H : ship_in_two.P k xs f = some o) :
  Calls Try.prog 46 #[.pointer (some ⟨g, 0, none⟩)] u fun e u' => (∃ b l, f b l = some o ∧ e = .returned (.int .i64 b) ∧ ship_in_take.Holds w u' g l ∧ Below w.heap.size w u' ∧ ship_in_take.Stays g u u') ∨ (o = none ∧ e = .panicked ship_in_take.lost ∧ Below w.heap.size w u' ∧ ship_in_take.Stays g u u') := by
 unfold ship_in_two.P at H
 by_cases hl : 2 ≤ xs.length
 ·rw [if_pos hl] at H
  obtain ⟨⟨r1, r2, r3⟩, hr, H⟩ := Option.bind_eq_some_iff.mp H
  refine (ship_in_two.calls k xs r1 r2 r3 g w u hB hb h (fun _ => hr)).mono ?_
  rintro e w' (⟨_, h1, h2, h3, h4⟩ | ⟨h0, _⟩)
  ·exact .inl ⟨_, _, H, h1, h2, h3, h4⟩
  ·omega
 ·rw [if_neg hl] at H
  refine (ship_in_two.calls k xs 0 [] 0 g w u hB hb h (fun h => absurd h hl)).mono ?_
  rintro e w' (⟨h0, _⟩ | ⟨_, h1, h2, h3⟩)
  ·exact absurd h0 hl
  ·exact .inr ⟨(Option.some.inj H).symm, h1, h2, h3⟩

end Go.Proofs.Ytihiiidbhhlfnaa.G
