/- Contracts of the functions of this seat: what each call computes, as a plain Lean function. Made by this session's own generator. -/
import Derived.Test.YtpijgpjoobffoaaGx0
import Derived.Test.YtpijgpjoobffoaaGx1
import Derived.Test.YtpijgpjoobffoaaGx2
import Derived.Test.YtpijgpjoobffoaaGx14
namespace Go.Proofs.Ytpijgpjoobffoaa.G
open Go.RowKit Go.Proofs.YtpijgpjoobffoaaMy Go.Proofs.YtpijgpjoobffoaaW.PrintWords Go.Proofs.YtpijgpjoobffoaaW.PrintLast Go.Proofs.YtpijgpjoobffoaaW.PrintMore
attribute [local go_sem] max2_int min2_int max_two min_two max_three min_three max_four min_four   -- for this text's walks alone
set_option linter.unusedVariables false
set_option linter.unusedSimpArgs false

attribute [local go_sem high] eqA42 eqA51
/-! ### compositorref07_Same: function 19 -/
mutual
def compositorref07_Same.j0 : Nat → Bool → Int → Int → Int → List (S42) → List Int → List Int → List Int → List Int → List (S51) → List Int → List Int → Int → Int → Int → List (S42) → List Int → List Int → List Int → List Int → List (S51) → List Int → List Int → Option (Bool)
 | 0, _, _, _, _, _, _, _, _, _, _, _, _, _, _, _, _, _, _, _, _, _, _, _ => none
 | k + 1, x44, x150000, x150001, x150002, x150003, x150004, x150005, x150006, x150007, x150008, x150009, x150010, x151000, x151001, x151002, x151003, x151004, x151005, x151006, x151007, x151008, x151009, x151010 => if x44 = true then (some false) else (compositorref07_Same.l0 k 0 x150000 x150001 x150002 x150003 x150004 x150005 x150006 x150007 x150008 x150009 x150010 x151000 x151001 x151002 x151003 x151004 x151005 x151006 x151007 x151008 x151009 x151010)
def compositorref07_Same.l0 : Nat → Int → Int → Int → Int → List (S42) → List Int → List Int → List Int → List Int → List (S51) → List Int → List Int → Int → Int → Int → List (S42) → List Int → List Int → List Int → List Int → List (S51) → List Int → List Int → Option (Bool)
 | 0, _, _, _, _, _, _, _, _, _, _, _, _, _, _, _, _, _, _, _, _, _, _, _ => none
 | k + 1, x5, x150000, x150001, x150002, x150003, x150004, x150005, x150006, x150007, x150008, x150009, x150010, x151000, x151001, x151002, x151003, x151004, x151005, x151006, x151007, x151008, x151009, x151010 => if x5 < (x150003.length : Int) then (if 0 ≤ x5 then (if x5 < (x151003.length : Int) then (if (!(((rd_T42 x150003 x5).f0) == ((rd_T42 x151003 x5).f0)) || (!(((rd_T42 x150003 x5).f1) == ((rd_T42 x151003 x5).f1)) || (!(((rd_T42 x150003 x5).f2) == ((rd_T42 x151003 x5).f2)) || (!(((rd_T42 x150003 x5).f3) == ((rd_T42 x151003 x5).f3)) || (!(((rd_T42 x150003 x5).f4) == ((rd_T42 x151003 x5).f4)) || (!(((rd_T42 x150003 x5).f5) == ((rd_T42 x151003 x5).f5)))))))) = true then (some false) else (compositorref07_Same.l0 k (wrap64 (x5 + 1)) x150000 x150001 x150002 x150003 x150004 x150005 x150006 x150007 x150008 x150009 x150010 x151000 x151001 x151002 x151003 x151004 x151005 x151006 x151007 x151008 x151009 x151010)) else (none)) else (none)) else (compositorref07_Same.l1 k 0 x150000 x150001 x150002 x150003 x150004 x150005 x150006 x150007 x150008 x150009 x150010 x151000 x151001 x151002 x151003 x151004 x151005 x151006 x151007 x151008 x151009 x151010)
def compositorref07_Same.l1 : Nat → Int → Int → Int → Int → List (S42) → List Int → List Int → List Int → List Int → List (S51) → List Int → List Int → Int → Int → Int → List (S42) → List Int → List Int → List Int → List Int → List (S51) → List Int → List Int → Option (Bool)
 | 0, _, _, _, _, _, _, _, _, _, _, _, _, _, _, _, _, _, _, _, _, _, _, _ => none
 | k + 1, x6, x150000, x150001, x150002, x150003, x150004, x150005, x150006, x150007, x150008, x150009, x150010, x151000, x151001, x151002, x151003, x151004, x151005, x151006, x151007, x151008, x151009, x151010 => if x6 < (x150008.length : Int) then (if 0 ≤ x6 then (if x6 < (x151008.length : Int) then (if (!(((rd_T51 x150008 x6).f0) == ((rd_T51 x151008 x6).f0)) || (!(((rd_T51 x150008 x6).f1) == ((rd_T51 x151008 x6).f1)) || (!(((rd_T51 x150008 x6).f2) == ((rd_T51 x151008 x6).f2)) || (!(((rd_T51 x150008 x6).f3) == ((rd_T51 x151008 x6).f3)))))) = true then (some false) else (compositorref07_Same.l1 k (wrap64 (x6 + 1)) x150000 x150001 x150002 x150003 x150004 x150005 x150006 x150007 x150008 x150009 x150010 x151000 x151001 x151002 x151003 x151004 x151005 x151006 x151007 x151008 x151009 x151010)) else (none)) else (none)) else ((compositorref04_Same.f k x150004 x151004).bind fun t155 => (if t155 = true then ((compositorref04_Same.f k x150005 x151005).bind fun t156 => (if t156 = true then ((compositorref04_Same.f k x150006 x151006).bind fun t157 => (if t157 = true then ((compositorref04_Same.f k x150007 x151007).bind fun t158 => (if t158 = true then ((compositorref04_Same.f k x150009 x151009).bind fun t159 => (if t159 = true then ((compositorref04_Same.f k x150010 x151010).bind fun t160 => (some t160)) else (some false))) else (some false))) else (some false))) else (some false))) else (some false)))
end
def compositorref07_Same.f (k : Nat) (a0_0 : Int) (a0_1 : Int) (a0_2 : Int) (l0_3 : List (S42)) (l0_4 : List Int) (l0_5 : List Int) (l0_6 : List Int) (l0_7 : List Int) (l0_8 : List (S51)) (l0_9 : List Int) (l0_10 : List Int) (a1_0 : Int) (a1_1 : Int) (a1_2 : Int) (l1_3 : List (S42)) (l1_4 : List Int) (l1_5 : List Int) (l1_6 : List Int) (l1_7 : List Int) (l1_8 : List (S51)) (l1_9 : List Int) (l1_10 : List Int) : Option (Bool) := if a0_0 = a1_0 then (if a0_1 = a1_1 then (if a0_2 = a1_2 then (if (l0_3.length : Int) = (l1_3.length : Int) then (compositorref07_Same.j0 k ((l0_8.length : Int) != (l1_8.length : Int)) a0_0 a0_1 a0_2 l0_3 l0_4 l0_5 l0_6 l0_7 l0_8 l0_9 l0_10 a1_0 a1_1 a1_2 l1_3 l1_4 l1_5 l1_6 l1_7 l1_8 l1_9 l1_10) else (compositorref07_Same.j0 k true a0_0 a0_1 a0_2 l0_3 l0_4 l0_5 l0_6 l0_7 l0_8 l0_9 l0_10 a1_0 a1_1 a1_2 l1_3 l1_4 l1_5 l1_6 l1_7 l1_8 l1_9 l1_10)) else (compositorref07_Same.j0 k true a0_0 a0_1 a0_2 l0_3 l0_4 l0_5 l0_6 l0_7 l0_8 l0_9 l0_10 a1_0 a1_1 a1_2 l1_3 l1_4 l1_5 l1_6 l1_7 l1_8 l1_9 l1_10)) else (compositorref07_Same.j0 k true a0_0 a0_1 a0_2 l0_3 l0_4 l0_5 l0_6 l0_7 l0_8 l0_9 l0_10 a1_0 a1_1 a1_2 l1_3 l1_4 l1_5 l1_6 l1_7 l1_8 l1_9 l1_10)) else (compositorref07_Same.j0 k true a0_0 a0_1 a0_2 l0_3 l0_4 l0_5 l0_6 l0_7 l0_8 l0_9 l0_10 a1_0 a1_1 a1_2 l1_3 l1_4 l1_5 l1_6 l1_7 l1_8 l1_9 l1_10)
theorem compositorref07_Same.mono_l : ∀ k, (∀ y0 y1 y2 y3 y4 y5 y6 y7 y8 y9 y10 y11 y12 y13 y14 y15 y16 y17 y18 y19 y20 y21 y22, LeO (compositorref07_Same.j0 k y0 y1 y2 y3 y4 y5 y6 y7 y8 y9 y10 y11 y12 y13 y14 y15 y16 y17 y18 y19 y20 y21 y22) (compositorref07_Same.j0 (k + 1) y0 y1 y2 y3 y4 y5 y6 y7 y8 y9 y10 y11 y12 y13 y14 y15 y16 y17 y18 y19 y20 y21 y22)) ∧ (∀ y0 y1 y2 y3 y4 y5 y6 y7 y8 y9 y10 y11 y12 y13 y14 y15 y16 y17 y18 y19 y20 y21 y22, LeO (compositorref07_Same.l0 k y0 y1 y2 y3 y4 y5 y6 y7 y8 y9 y10 y11 y12 y13 y14 y15 y16 y17 y18 y19 y20 y21 y22) (compositorref07_Same.l0 (k + 1) y0 y1 y2 y3 y4 y5 y6 y7 y8 y9 y10 y11 y12 y13 y14 y15 y16 y17 y18 y19 y20 y21 y22)) ∧ (∀ y0 y1 y2 y3 y4 y5 y6 y7 y8 y9 y10 y11 y12 y13 y14 y15 y16 y17 y18 y19 y20 y21 y22, LeO (compositorref07_Same.l1 k y0 y1 y2 y3 y4 y5 y6 y7 y8 y9 y10 y11 y12 y13 y14 y15 y16 y17 y18 y19 y20 y21 y22) (compositorref07_Same.l1 (k + 1) y0 y1 y2 y3 y4 y5 y6 y7 y8 y9 y10 y11 y12 y13 y14 y15 y16 y17 y18 y19 y20 y21 y22))
 | 0 => ⟨fun _ _ _ _ _ _ _ _ _ _ _ _ _ _ _ _ _ _ _ _ _ _ _ r h => by simp [compositorref07_Same.j0] at h, fun _ _ _ _ _ _ _ _ _ _ _ _ _ _ _ _ _ _ _ _ _ _ _ r h => by simp [compositorref07_Same.l0] at h, fun _ _ _ _ _ _ _ _ _ _ _ _ _ _ _ _ _ _ _ _ _ _ _ r h => by simp [compositorref07_Same.l1] at h⟩
 | k + 1 => by
  obtain ⟨ih0, ih1, ih2⟩ := compositorref07_Same.mono_l k
  refine ⟨?_, ?_, ?_⟩
  ·intro y0 y1 y2 y3 y4 y5 y6 y7 y8 y9 y10 y11 y12 y13 y14 y15 y16 y17 y18 y19 y20 y21 y22
   unfold compositorref07_Same.j0
   repeat' first
   | (with_reducible exact ih0 _ _ _ _ _ _ _ _ _ _ _ _ _ _ _ _ _ _ _ _ _ _ _)
   | (with_reducible exact ih1 _ _ _ _ _ _ _ _ _ _ _ _ _ _ _ _ _ _ _ _ _ _ _)
   | (with_reducible exact ih2 _ _ _ _ _ _ _ _ _ _ _ _ _ _ _ _ _ _ _ _ _ _ _)
   | (with_reducible exact compositorref04_Same.mono _ _ _)
   | (with_reducible exact LeO.refl _)
   | (with_reducible exact LeO.none _)
   | (with_reducible refine LeO.ite ?_ ?_)
   | (with_reducible refine LeO.bind ?_ (fun _ => ?_))
   | exact ih0 _ _ _ _ _ _ _ _ _ _ _ _ _ _ _ _ _ _ _ _ _ _ _
   | exact ih1 _ _ _ _ _ _ _ _ _ _ _ _ _ _ _ _ _ _ _ _ _ _ _
   | exact ih2 _ _ _ _ _ _ _ _ _ _ _ _ _ _ _ _ _ _ _ _ _ _ _
   | exact compositorref04_Same.mono _ _ _
   | exact LeO.none _
   | refine LeO.ite ?_ ?_
   | refine LeO.bind ?_ (fun _ => ?_)
  ·intro y0 y1 y2 y3 y4 y5 y6 y7 y8 y9 y10 y11 y12 y13 y14 y15 y16 y17 y18 y19 y20 y21 y22
   unfold compositorref07_Same.l0
   repeat' first
   | (with_reducible exact ih0 _ _ _ _ _ _ _ _ _ _ _ _ _ _ _ _ _ _ _ _ _ _ _)
   | (with_reducible exact ih1 _ _ _ _ _ _ _ _ _ _ _ _ _ _ _ _ _ _ _ _ _ _ _)
   | (with_reducible exact ih2 _ _ _ _ _ _ _ _ _ _ _ _ _ _ _ _ _ _ _ _ _ _ _)
   | (with_reducible exact compositorref04_Same.mono _ _ _)
   | (with_reducible exact LeO.refl _)
   | (with_reducible exact LeO.none _)
   | (with_reducible refine LeO.ite ?_ ?_)
   | (with_reducible refine LeO.bind ?_ (fun _ => ?_))
   | exact ih0 _ _ _ _ _ _ _ _ _ _ _ _ _ _ _ _ _ _ _ _ _ _ _
   | exact ih1 _ _ _ _ _ _ _ _ _ _ _ _ _ _ _ _ _ _ _ _ _ _ _
   | exact ih2 _ _ _ _ _ _ _ _ _ _ _ _ _ _ _ _ _ _ _ _ _ _ _
   | exact compositorref04_Same.mono _ _ _
   | exact LeO.none _
   | refine LeO.ite ?_ ?_
   | refine LeO.bind ?_ (fun _ => ?_)
  ·intro y0 y1 y2 y3 y4 y5 y6 y7 y8 y9 y10 y11 y12 y13 y14 y15 y16 y17 y18 y19 y20 y21 y22
   unfold compositorref07_Same.l1
   repeat' first
   | (with_reducible exact ih0 _ _ _ _ _ _ _ _ _ _ _ _ _ _ _ _ _ _ _ _ _ _ _)
   | (with_reducible exact ih1 _ _ _ _ _ _ _ _ _ _ _ _ _ _ _ _ _ _ _ _ _ _ _)
   | (with_reducible exact ih2 _ _ _ _ _ _ _ _ _ _ _ _ _ _ _ _ _ _ _ _ _ _ _)
   | (with_reducible exact compositorref04_Same.mono _ _ _)
   | (with_reducible exact LeO.refl _)
   | (with_reducible exact LeO.none _)
   | (with_reducible refine LeO.ite ?_ ?_)
   | (with_reducible refine LeO.bind ?_ (fun _ => ?_))
   | exact ih0 _ _ _ _ _ _ _ _ _ _ _ _ _ _ _ _ _ _ _ _ _ _ _
   | exact ih1 _ _ _ _ _ _ _ _ _ _ _ _ _ _ _ _ _ _ _ _ _ _ _
   | exact ih2 _ _ _ _ _ _ _ _ _ _ _ _ _ _ _ _ _ _ _ _ _ _ _
   | exact compositorref04_Same.mono _ _ _
   | exact LeO.none _
   | refine LeO.ite ?_ ?_
   | refine LeO.bind ?_ (fun _ => ?_)
theorem compositorref07_Same.mono : ∀ a0 a1 a2 a3 a4 a5 a6 a7 a8 a9 a10 a11 a12 a13 a14 a15 a16 a17 a18 a19 a20 a21 k, LeO (compositorref07_Same.f k a0 a1 a2 a3 a4 a5 a6 a7 a8 a9 a10 a11 a12 a13 a14 a15 a16 a17 a18 a19 a20 a21) (compositorref07_Same.f (k + 1) a0 a1 a2 a3 a4 a5 a6 a7 a8 a9 a10 a11 a12 a13 a14 a15 a16 a17 a18 a19 a20 a21) := by
 intro a0 a1 a2 a3 a4 a5 a6 a7 a8 a9 a10 a11 a12 a13 a14 a15 a16 a17 a18 a19 a20 a21 k
 obtain ⟨ih0, ih1, ih2⟩ := compositorref07_Same.mono_l k
 unfold compositorref07_Same.f
 repeat' first
   | (with_reducible exact ih0 _ _ _ _ _ _ _ _ _ _ _ _ _ _ _ _ _ _ _ _ _ _ _)
   | (with_reducible exact ih1 _ _ _ _ _ _ _ _ _ _ _ _ _ _ _ _ _ _ _ _ _ _ _)
   | (with_reducible exact ih2 _ _ _ _ _ _ _ _ _ _ _ _ _ _ _ _ _ _ _ _ _ _ _)
   | (with_reducible exact compositorref04_Same.mono _ _ _)
   | (with_reducible exact LeO.refl _)
   | (with_reducible exact LeO.none _)
   | (with_reducible refine LeO.ite ?_ ?_)
   | (with_reducible refine LeO.bind ?_ (fun _ => ?_))
   | exact ih0 _ _ _ _ _ _ _ _ _ _ _ _ _ _ _ _ _ _ _ _ _ _ _
   | exact ih1 _ _ _ _ _ _ _ _ _ _ _ _ _ _ _ _ _ _ _ _ _ _ _
   | exact ih2 _ _ _ _ _ _ _ _ _ _ _ _ _ _ _ _ _ _ _ _ _ _ _
   | exact compositorref04_Same.mono _ _ _
   | exact LeO.none _
   | refine LeO.ite ?_ ?_
   | refine LeO.bind ?_ (fun _ => ?_)
set_option maxHeartbeats 8000000 in
set_option maxRecDepth 100000 in
theorem compositorref07_Same.calls (k : Nat) (a0_0 : Int) (a0_1 : Int) (a0_2 : Int) (A0_3 : Option Addr) (c0_3 : Nat) (l0_3 : List (S42)) (A0_4 : Option Addr) (c0_4 : Nat) (l0_4 : List Int) (A0_5 : Option Addr) (c0_5 : Nat) (l0_5 : List Int) (A0_6 : Option Addr) (c0_6 : Nat) (l0_6 : List Int) (A0_7 : Option Addr) (c0_7 : Nat) (l0_7 : List Int) (A0_8 : Option Addr) (c0_8 : Nat) (l0_8 : List (S51)) (A0_9 : Option Addr) (c0_9 : Nat) (l0_9 : List Int) (A0_10 : Option Addr) (c0_10 : Nat) (l0_10 : List Int) (a1_0 : Int) (a1_1 : Int) (a1_2 : Int) (A1_3 : Option Addr) (c1_3 : Nat) (l1_3 : List (S42)) (A1_4 : Option Addr) (c1_4 : Nat) (l1_4 : List Int) (A1_5 : Option Addr) (c1_5 : Nat) (l1_5 : List Int) (A1_6 : Option Addr) (c1_6 : Nat) (l1_6 : List Int) (A1_7 : Option Addr) (c1_7 : Nat) (l1_7 : List Int) (A1_8 : Option Addr) (c1_8 : Nat) (l1_8 : List (S51)) (A1_9 : Option Addr) (c1_9 : Nat) (l1_9 : List Int) (A1_10 : Option Addr) (c1_10 : Nat) (l1_10 : List Int) (r : Bool) (w : World) (hr0_3 : Kd.C k42 w A0_3 l0_3.length l0_3) (hc0_3 : l0_3.length ≤ c0_3) (hr0_4 : Kd.C (Kd.int .i64) w A0_4 l0_4.length l0_4) (hc0_4 : l0_4.length ≤ c0_4) (hr0_5 : Kd.C (Kd.int .i64) w A0_5 l0_5.length l0_5) (hc0_5 : l0_5.length ≤ c0_5) (hr0_6 : Kd.C (Kd.int .i64) w A0_6 l0_6.length l0_6) (hc0_6 : l0_6.length ≤ c0_6) (hr0_7 : Kd.C (Kd.int .i64) w A0_7 l0_7.length l0_7) (hc0_7 : l0_7.length ≤ c0_7) (hr0_8 : Kd.C k51 w A0_8 l0_8.length l0_8) (hc0_8 : l0_8.length ≤ c0_8) (hr0_9 : Kd.C (Kd.int .i64) w A0_9 l0_9.length l0_9) (hc0_9 : l0_9.length ≤ c0_9) (hr0_10 : Kd.C (Kd.int .i64) w A0_10 l0_10.length l0_10) (hc0_10 : l0_10.length ≤ c0_10) (hr1_3 : Kd.C k42 w A1_3 l1_3.length l1_3) (hc1_3 : l1_3.length ≤ c1_3) (hr1_4 : Kd.C (Kd.int .i64) w A1_4 l1_4.length l1_4) (hc1_4 : l1_4.length ≤ c1_4) (hr1_5 : Kd.C (Kd.int .i64) w A1_5 l1_5.length l1_5) (hc1_5 : l1_5.length ≤ c1_5) (hr1_6 : Kd.C (Kd.int .i64) w A1_6 l1_6.length l1_6) (hc1_6 : l1_6.length ≤ c1_6) (hr1_7 : Kd.C (Kd.int .i64) w A1_7 l1_7.length l1_7) (hc1_7 : l1_7.length ≤ c1_7) (hr1_8 : Kd.C k51 w A1_8 l1_8.length l1_8) (hc1_8 : l1_8.length ≤ c1_8) (hr1_9 : Kd.C (Kd.int .i64) w A1_9 l1_9.length l1_9) (hc1_9 : l1_9.length ≤ c1_9) (hr1_10 : Kd.C (Kd.int .i64) w A1_10 l1_10.length l1_10) (hc1_10 : l1_10.length ≤ c1_10) (h : compositorref07_Same.f k a0_0 a0_1 a0_2 l0_3 l0_4 l0_5 l0_6 l0_7 l0_8 l0_9 l0_10 a1_0 a1_1 a1_2 l1_3 l1_4 l1_5 l1_6 l1_7 l1_8 l1_9 l1_10 = some r) :
  Calls Try.prog 19 #[.agg #[.int .i64 a0_0, .int .i64 a0_1, .int .i64 a0_2, .slice A0_3 l0_3.length c0_3, .slice A0_4 l0_4.length c0_4, .slice A0_5 l0_5.length c0_5, .slice A0_6 l0_6.length c0_6, .slice A0_7 l0_7.length c0_7, .slice A0_8 l0_8.length c0_8, .slice A0_9 l0_9.length c0_9, .slice A0_10 l0_10.length c0_10], .agg #[.int .i64 a1_0, .int .i64 a1_1, .int .i64 a1_2, .slice A1_3 l1_3.length c1_3, .slice A1_4 l1_4.length c1_4, .slice A1_5 l1_5.length c1_5, .slice A1_6 l1_6.length c1_6, .slice A1_7 l1_7.length c1_7, .slice A1_8 l1_8.length c1_8, .slice A1_9 l1_9.length c1_9, .slice A1_10 l1_10.length c1_10]] w fun e w' => e = .returned (.bool r) ∧ Below w.heap.size w w' := by
 have hu26 := Try.underlying26
 have hu42 := Try.underlying42
 have hu51 := Try.underlying51
 have HR0_3 := Aside0.mk hr0_3
 have HC0_3 := Aside0.mk hc0_3
 clear hr0_3 hc0_3
 have HR0_4 := Aside0.mk hr0_4
 have HC0_4 := Aside0.mk hc0_4
 clear hr0_4 hc0_4
 have HR0_5 := Aside0.mk hr0_5
 have HC0_5 := Aside0.mk hc0_5
 clear hr0_5 hc0_5
 have HR0_6 := Aside0.mk hr0_6
 have HC0_6 := Aside0.mk hc0_6
 clear hr0_6 hc0_6
 have HR0_7 := Aside0.mk hr0_7
 have HC0_7 := Aside0.mk hc0_7
 clear hr0_7 hc0_7
 have HR0_8 := Aside0.mk hr0_8
 have HC0_8 := Aside0.mk hc0_8
 clear hr0_8 hc0_8
 have HR0_9 := Aside0.mk hr0_9
 have HC0_9 := Aside0.mk hc0_9
 clear hr0_9 hc0_9
 have HR0_10 := Aside0.mk hr0_10
 have HC0_10 := Aside0.mk hc0_10
 clear hr0_10 hc0_10
 have HR1_3 := Aside0.mk hr1_3
 have HC1_3 := Aside0.mk hc1_3
 clear hr1_3 hc1_3
 have HR1_4 := Aside0.mk hr1_4
 have HC1_4 := Aside0.mk hc1_4
 clear hr1_4 hc1_4
 have HR1_5 := Aside0.mk hr1_5
 have HC1_5 := Aside0.mk hc1_5
 clear hr1_5 hc1_5
 have HR1_6 := Aside0.mk hr1_6
 have HC1_6 := Aside0.mk hc1_6
 clear hr1_6 hc1_6
 have HR1_7 := Aside0.mk hr1_7
 have HC1_7 := Aside0.mk hc1_7
 clear hr1_7 hc1_7
 have HR1_8 := Aside0.mk hr1_8
 have HC1_8 := Aside0.mk hc1_8
 clear hr1_8 hc1_8
 have HR1_9 := Aside0.mk hr1_9
 have HC1_9 := Aside0.mk hc1_9
 clear hr1_9 hc1_9
 have HR1_10 := Aside0.mk hr1_10
 have HC1_10 := Aside0.mk hc1_10
 clear hr1_10 hc1_10
 have HB := Aside0.mk (Below.refl w.heap.size w)
 have H : (if a0_0 = a1_0 then (if a0_1 = a1_1 then (if a0_2 = a1_2 then (if (l0_3.length : Int) = (l1_3.length : Int) then (compositorref07_Same.j0 k ((l0_8.length : Int) != (l1_8.length : Int)) a0_0 a0_1 a0_2 l0_3 l0_4 l0_5 l0_6 l0_7 l0_8 l0_9 l0_10 a1_0 a1_1 a1_2 l1_3 l1_4 l1_5 l1_6 l1_7 l1_8 l1_9 l1_10) else (compositorref07_Same.j0 k true a0_0 a0_1 a0_2 l0_3 l0_4 l0_5 l0_6 l0_7 l0_8 l0_9 l0_10 a1_0 a1_1 a1_2 l1_3 l1_4 l1_5 l1_6 l1_7 l1_8 l1_9 l1_10)) else (compositorref07_Same.j0 k true a0_0 a0_1 a0_2 l0_3 l0_4 l0_5 l0_6 l0_7 l0_8 l0_9 l0_10 a1_0 a1_1 a1_2 l1_3 l1_4 l1_5 l1_6 l1_7 l1_8 l1_9 l1_10)) else (compositorref07_Same.j0 k true a0_0 a0_1 a0_2 l0_3 l0_4 l0_5 l0_6 l0_7 l0_8 l0_9 l0_10 a1_0 a1_1 a1_2 l1_3 l1_4 l1_5 l1_6 l1_7 l1_8 l1_9 l1_10)) else (compositorref07_Same.j0 k true a0_0 a0_1 a0_2 l0_3 l0_4 l0_5 l0_6 l0_7 l0_8 l0_9 l0_10 a1_0 a1_1 a1_2 l1_3 l1_4 l1_5 l1_6 l1_7 l1_8 l1_9 l1_10)) = some r := h
 clear h
 have HC3 := Aside0.mk H
 clear H
 go_enter Try.func19, Try.ntmps19
 go_upto_region 1 with (first | ((with_reducible refine gate_load (T := 26) rfl ?_); refine load_row_event (by first | rfl | (go_simp; done)) 26 _ rfl gb149 rfl 26 _ (0, 0) _ (by (with_reducible repeat (first | refine blk_drewN ?_ _ | refine blk_drew ?_ | refine blk_alloc ?_ _)); first | with_reducible exact BK149.out | with_reducible exact (blk_far BK149.out NB149_150.out _) | with_reducible exact (blk_far (blk_far BK149.out NB149_150.out _) NB149_150.out _) | with_reducible exact (blk_far (blk_far (blk_far BK149.out NB149_150.out _) NB149_150.out _) NB149_150.out _)) hu26 rfl (by kernel_rfl) ?_) | ((with_reducible refine gate_load (T := 26) rfl ?_); refine load_row_event (by first | rfl | (go_simp; done)) 26 _ rfl gb150 rfl 26 _ (0, 0) _ (by (with_reducible repeat (first | refine blk_drewN ?_ _ | refine blk_drew ?_ | refine blk_alloc ?_ _)); first | with_reducible exact BK150.out | with_reducible exact (blk_far BK150.out NB150_149.out _) | with_reducible exact (blk_far (blk_far BK150.out NB150_149.out _) NB150_149.out _) | with_reducible exact (blk_far (blk_far (blk_far BK150.out NB150_149.out _) NB150_149.out _) NB150_149.out _)) hu26 rfl (by kernel_rfl) ?_) | ((with_reducible refine gate_store (t := 26) rfl ?_); refine store_row_event (base := w.heap.size) rfl rfl 26 _ _ rfl (g := gb149) (by rfl) (by rfl) (by (with_reducible repeat (first | refine blk_drewN ?_ _ | refine blk_drew ?_ | refine blk_alloc ?_ _)); exact BK149.out) (by kernel_rfl) (by rfl) (by rfl) GE149.out ?_; intro ws_ hs_ hk_ hb_; have n0_ := Aside0.mk (Below.trans (by repeat (first | (with_reducible first | exact HB.out | apply below_alloc | apply pw_below_drewN | apply below_drew1) | exact HB.out)) hb_); clear HB; have HB := n0_; clear n0_; clear BK149; have BK149 := Aside0.mk hs_; clear hs_; (try (have z_ := Aside0.mk (blk_else BK150.out NB150_149.out hk_); clear BK150; have BK150 := z_; clear z_)); have hxs_ := blk_cell BK149.out; have hys_ := blk_frozen BK149.out; clear hk_ hb_) | ((with_reducible refine gate_store (t := 26) rfl ?_); refine store_row_event (base := w.heap.size) rfl rfl 26 _ _ rfl (g := gb150) (by rfl) (by rfl) (by (with_reducible repeat (first | refine blk_drewN ?_ _ | refine blk_drew ?_ | refine blk_alloc ?_ _)); exact BK150.out) (by kernel_rfl) (by rfl) (by rfl) GE150.out ?_; intro ws_ hs_ hk_ hb_; have n0_ := Aside0.mk (Below.trans (by repeat (first | (with_reducible first | exact HB.out | apply below_alloc | apply pw_below_drewN | apply below_drew1) | exact HB.out)) hb_); clear HB; have HB := n0_; clear n0_; clear BK150; have BK150 := Aside0.mk hs_; clear hs_; (try (have z_ := Aside0.mk (blk_else BK149.out NB149_150.out hk_); clear BK149; have BK149 := z_; clear z_)); have hxs_ := blk_cell BK150.out; have hys_ := blk_frozen BK150.out; clear hk_ hb_) | ((with_reducible refine gate_dst (N := 2) rfl ?_); (try (refine gate_guard (by rfl) ?_; dsimp only)); refine box_event ?hg (N := 2) ?hd (cs := #[.int .i64 a0_0, .int .i64 a0_1, .int .i64 a0_2, .slice A0_3 l0_3.length c0_3, .slice A0_4 l0_4.length c0_4, .slice A0_5 l0_5.length c0_5, .slice A0_6 l0_6.length c0_6, .slice A0_7 l0_7.length c0_7, .slice A0_8 l0_8.length c0_8, .slice A0_9 l0_9.length c0_9, .slice A0_10 l0_10.length c0_10]) (t := 26) ?hr ?_; (case hd => rfl); (case hg => rfl); (case hr => first | (go_simp; done) | (go_simp; rfl)); intro gb149 hg w4 hbox hb; have n0_ := Aside0.mk (below_step (by repeat (first | (with_reducible first | exact HB.out | apply below_alloc | apply pw_below_drewN | apply below_drew1) | exact HB.out)) hb); have n1_ := Aside0.mk (hbox); have n2_ := Aside0.mk ((by rw [hg]; exact (below_size (by repeat (first | (with_reducible first | exact HB.out | apply below_alloc | apply pw_below_drewN | apply below_drew1) | exact HB.out))) : w.heap.size ≤ gb149)); have n3_ := Aside0.mk ((by rw [hg]; exact (below_size (by repeat (first | (with_reducible first | exact HB.out | apply below_alloc | apply pw_below_drewN | apply below_drew1) | exact HB.out))) : w.heap.size ≤ gb149)); clear HB; have HB := n0_; have BK149 := n1_; have GW149 := n2_; have GE149 := n3_; clear n0_ n1_ n2_ n3_; clear hb hbox hg) | ((with_reducible refine gate_dst (N := 3) rfl ?_); (try (refine gate_guard (by rfl) ?_; dsimp only)); refine box_event ?hg (N := 3) ?hd (cs := #[.int .i64 a1_0, .int .i64 a1_1, .int .i64 a1_2, .slice A1_3 l1_3.length c1_3, .slice A1_4 l1_4.length c1_4, .slice A1_5 l1_5.length c1_5, .slice A1_6 l1_6.length c1_6, .slice A1_7 l1_7.length c1_7, .slice A1_8 l1_8.length c1_8, .slice A1_9 l1_9.length c1_9, .slice A1_10 l1_10.length c1_10]) (t := 26) ?hr ?_; (case hd => rfl); (case hg => rfl); (case hr => first | (go_simp; done) | (go_simp; rfl)); intro gb150 hg w5 hbox hb; have n0_ := Aside0.mk (blk_below (g := gb149) (o := .cells #[.int .i64 a0_0, .int .i64 a0_1, .int .i64 a0_2, .slice A0_3 l0_3.length c0_3, .slice A0_4 l0_4.length c0_4, .slice A0_5 l0_5.length c0_5, .slice A0_6 l0_6.length c0_6, .slice A0_7 l0_7.length c0_7, .slice A0_8 l0_8.length c0_8, .slice A0_9 l0_9.length c0_9, .slice A0_10 l0_10.length c0_10] 26 (0, 0)) (by (with_reducible repeat (first | refine blk_drewN ?_ _ | refine blk_drew ?_ | refine blk_alloc ?_ _)); exact BK149.out) hb); have n1_ := Aside0.mk (below_step (by repeat (first | (with_reducible first | exact HB.out | apply below_alloc | apply pw_below_drewN | apply below_drew1 | refine below_set ?_ GE149.out) | exact HB.out)) hb); have n2_ := Aside0.mk (hbox); have n3_ := Aside0.mk ((by rw [hg]; exact (below_size (by repeat (first | (with_reducible first | exact HB.out | apply below_alloc | apply pw_below_drewN | apply below_drew1 | refine below_set ?_ GE149.out) | exact HB.out))) : w.heap.size ≤ gb150)); have n4_ := Aside0.mk ((by rw [hg]; exact (below_size (by repeat (first | (with_reducible first | exact HB.out | apply below_alloc | apply pw_below_drewN | apply below_drew1 | refine below_set ?_ GE149.out) | exact HB.out))) : w.heap.size ≤ gb150)); have n5_ := Aside0.mk ((by rw [hg]; exact Nat.ne_of_lt (blk_lt (g := gb149) (o := .cells #[.int .i64 a0_0, .int .i64 a0_1, .int .i64 a0_2, .slice A0_3 l0_3.length c0_3, .slice A0_4 l0_4.length c0_4, .slice A0_5 l0_5.length c0_5, .slice A0_6 l0_6.length c0_6, .slice A0_7 l0_7.length c0_7, .slice A0_8 l0_8.length c0_8, .slice A0_9 l0_9.length c0_9, .slice A0_10 l0_10.length c0_10] 26 (0, 0)) (by (with_reducible repeat (first | refine blk_drewN ?_ _ | refine blk_drew ?_ | refine blk_alloc ?_ _)); exact BK149.out)) : gb149 ≠ gb150)); have n6_ := Aside0.mk ((by rw [hg]; exact Nat.ne_of_gt (blk_lt (g := gb149) (o := .cells #[.int .i64 a0_0, .int .i64 a0_1, .int .i64 a0_2, .slice A0_3 l0_3.length c0_3, .slice A0_4 l0_4.length c0_4, .slice A0_5 l0_5.length c0_5, .slice A0_6 l0_6.length c0_6, .slice A0_7 l0_7.length c0_7, .slice A0_8 l0_8.length c0_8, .slice A0_9 l0_9.length c0_9, .slice A0_10 l0_10.length c0_10] 26 (0, 0)) (by (with_reducible repeat (first | refine blk_drewN ?_ _ | refine blk_drew ?_ | refine blk_alloc ?_ _)); exact BK149.out)) : gb150 ≠ gb149)); clear BK149; clear HB; have BK149 := n0_; have HB := n1_; have BK150 := n2_; have GW150 := n3_; have GE150 := n4_; have NB149_150 := n5_; have NB150_149 := n6_; clear n0_ n1_ n2_ n3_ n4_ n5_ n6_; clear hb hbox hg))
 repeat (go_quiet (first | ((with_reducible refine gate_dst (N := 2) rfl ?_); (try (refine gate_guard (by rfl) ?_; dsimp only)); refine box_event ?hg (N := 2) ?hd (cs := #[.int .i64 a0_0, .int .i64 a0_1, .int .i64 a0_2, .slice A0_3 l0_3.length c0_3, .slice A0_4 l0_4.length c0_4, .slice A0_5 l0_5.length c0_5, .slice A0_6 l0_6.length c0_6, .slice A0_7 l0_7.length c0_7, .slice A0_8 l0_8.length c0_8, .slice A0_9 l0_9.length c0_9, .slice A0_10 l0_10.length c0_10]) (t := 26) ?hr ?_; (case hd => rfl); (case hg => rfl); (case hr => first | (go_simp; done) | (go_simp; rfl)); intro gb149 hg w4 hbox hb; have n0_ := Aside0.mk (below_step (by repeat (first | (with_reducible first | exact HB.out | apply below_alloc | apply pw_below_drewN | apply below_drew1) | exact HB.out)) hb); have n1_ := Aside0.mk (hbox); have n2_ := Aside0.mk ((by rw [hg]; exact (below_size (by repeat (first | (with_reducible first | exact HB.out | apply below_alloc | apply pw_below_drewN | apply below_drew1) | exact HB.out))) : w.heap.size ≤ gb149)); have n3_ := Aside0.mk ((by rw [hg]; exact (below_size (by repeat (first | (with_reducible first | exact HB.out | apply below_alloc | apply pw_below_drewN | apply below_drew1) | exact HB.out))) : w.heap.size ≤ gb149)); clear HB; have HB := n0_; have BK149 := n1_; have GW149 := n2_; have GE149 := n3_; clear n0_ n1_ n2_ n3_; clear hb hbox hg) | ((with_reducible refine gate_dst (N := 3) rfl ?_); (try (refine gate_guard (by rfl) ?_; dsimp only)); refine box_event ?hg (N := 3) ?hd (cs := #[.int .i64 a1_0, .int .i64 a1_1, .int .i64 a1_2, .slice A1_3 l1_3.length c1_3, .slice A1_4 l1_4.length c1_4, .slice A1_5 l1_5.length c1_5, .slice A1_6 l1_6.length c1_6, .slice A1_7 l1_7.length c1_7, .slice A1_8 l1_8.length c1_8, .slice A1_9 l1_9.length c1_9, .slice A1_10 l1_10.length c1_10]) (t := 26) ?hr ?_; (case hd => rfl); (case hg => rfl); (case hr => first | (go_simp; done) | (go_simp; rfl)); intro gb150 hg w5 hbox hb; have n0_ := Aside0.mk (blk_below (g := gb149) (o := .cells #[.int .i64 a0_0, .int .i64 a0_1, .int .i64 a0_2, .slice A0_3 l0_3.length c0_3, .slice A0_4 l0_4.length c0_4, .slice A0_5 l0_5.length c0_5, .slice A0_6 l0_6.length c0_6, .slice A0_7 l0_7.length c0_7, .slice A0_8 l0_8.length c0_8, .slice A0_9 l0_9.length c0_9, .slice A0_10 l0_10.length c0_10] 26 (0, 0)) (by (with_reducible repeat (first | refine blk_drewN ?_ _ | refine blk_drew ?_ | refine blk_alloc ?_ _)); exact BK149.out) hb); have n1_ := Aside0.mk (below_step (by repeat (first | (with_reducible first | exact HB.out | apply below_alloc | apply pw_below_drewN | apply below_drew1 | refine below_set ?_ GE149.out) | exact HB.out)) hb); have n2_ := Aside0.mk (hbox); have n3_ := Aside0.mk ((by rw [hg]; exact (below_size (by repeat (first | (with_reducible first | exact HB.out | apply below_alloc | apply pw_below_drewN | apply below_drew1 | refine below_set ?_ GE149.out) | exact HB.out))) : w.heap.size ≤ gb150)); have n4_ := Aside0.mk ((by rw [hg]; exact (below_size (by repeat (first | (with_reducible first | exact HB.out | apply below_alloc | apply pw_below_drewN | apply below_drew1 | refine below_set ?_ GE149.out) | exact HB.out))) : w.heap.size ≤ gb150)); have n5_ := Aside0.mk ((by rw [hg]; exact Nat.ne_of_lt (blk_lt (g := gb149) (o := .cells #[.int .i64 a0_0, .int .i64 a0_1, .int .i64 a0_2, .slice A0_3 l0_3.length c0_3, .slice A0_4 l0_4.length c0_4, .slice A0_5 l0_5.length c0_5, .slice A0_6 l0_6.length c0_6, .slice A0_7 l0_7.length c0_7, .slice A0_8 l0_8.length c0_8, .slice A0_9 l0_9.length c0_9, .slice A0_10 l0_10.length c0_10] 26 (0, 0)) (by (with_reducible repeat (first | refine blk_drewN ?_ _ | refine blk_drew ?_ | refine blk_alloc ?_ _)); exact BK149.out)) : gb149 ≠ gb150)); have n6_ := Aside0.mk ((by rw [hg]; exact Nat.ne_of_gt (blk_lt (g := gb149) (o := .cells #[.int .i64 a0_0, .int .i64 a0_1, .int .i64 a0_2, .slice A0_3 l0_3.length c0_3, .slice A0_4 l0_4.length c0_4, .slice A0_5 l0_5.length c0_5, .slice A0_6 l0_6.length c0_6, .slice A0_7 l0_7.length c0_7, .slice A0_8 l0_8.length c0_8, .slice A0_9 l0_9.length c0_9, .slice A0_10 l0_10.length c0_10] 26 (0, 0)) (by (with_reducible repeat (first | refine blk_drewN ?_ _ | refine blk_drew ?_ | refine blk_alloc ?_ _)); exact BK149.out)) : gb150 ≠ gb149)); clear BK149; clear HB; have BK149 := n0_; have HB := n1_; have BK150 := n2_; have GW150 := n3_; have GE150 := n4_; have NB149_150 := n5_; have NB150_149 := n6_; clear n0_ n1_ n2_ n3_ n4_ n5_ n6_; clear hb hbox hg)); go_upto_region 1 with (first | ((with_reducible refine gate_load (T := 26) rfl ?_); refine load_row_event (by first | rfl | (go_simp; done)) 26 _ rfl gb149 rfl 26 _ (0, 0) _ (by (with_reducible repeat (first | refine blk_drewN ?_ _ | refine blk_drew ?_ | refine blk_alloc ?_ _)); first | with_reducible exact BK149.out | with_reducible exact (blk_far BK149.out NB149_150.out _) | with_reducible exact (blk_far (blk_far BK149.out NB149_150.out _) NB149_150.out _) | with_reducible exact (blk_far (blk_far (blk_far BK149.out NB149_150.out _) NB149_150.out _) NB149_150.out _)) hu26 rfl (by kernel_rfl) ?_) | ((with_reducible refine gate_load (T := 26) rfl ?_); refine load_row_event (by first | rfl | (go_simp; done)) 26 _ rfl gb150 rfl 26 _ (0, 0) _ (by (with_reducible repeat (first | refine blk_drewN ?_ _ | refine blk_drew ?_ | refine blk_alloc ?_ _)); first | with_reducible exact BK150.out | with_reducible exact (blk_far BK150.out NB150_149.out _) | with_reducible exact (blk_far (blk_far BK150.out NB150_149.out _) NB150_149.out _) | with_reducible exact (blk_far (blk_far (blk_far BK150.out NB150_149.out _) NB150_149.out _) NB150_149.out _)) hu26 rfl (by kernel_rfl) ?_) | ((with_reducible refine gate_store (t := 26) rfl ?_); refine store_row_event (base := w.heap.size) rfl rfl 26 _ _ rfl (g := gb149) (by rfl) (by rfl) (by (with_reducible repeat (first | refine blk_drewN ?_ _ | refine blk_drew ?_ | refine blk_alloc ?_ _)); exact BK149.out) (by kernel_rfl) (by rfl) (by rfl) GE149.out ?_; intro ws_ hs_ hk_ hb_; have n0_ := Aside0.mk (Below.trans (by repeat (first | (with_reducible first | exact HB.out | apply below_alloc | apply pw_below_drewN | apply below_drew1) | exact HB.out)) hb_); clear HB; have HB := n0_; clear n0_; clear BK149; have BK149 := Aside0.mk hs_; clear hs_; (try (have z_ := Aside0.mk (blk_else BK150.out NB150_149.out hk_); clear BK150; have BK150 := z_; clear z_)); (try (have z_ := Aside0.mk (blk_else BK150.out NB150_149.out hk_); clear BK150; have BK150 := z_; clear z_)); (try (have z_ := Aside0.mk (blk_else BK150.out NB150_149.out hk_); clear BK150; have BK150 := z_; clear z_)); have hxs_ := blk_cell BK149.out; have hys_ := blk_frozen BK149.out; clear hk_ hb_) | ((with_reducible refine gate_store (t := 26) rfl ?_); refine store_row_event (base := w.heap.size) rfl rfl 26 _ _ rfl (g := gb150) (by rfl) (by rfl) (by (with_reducible repeat (first | refine blk_drewN ?_ _ | refine blk_drew ?_ | refine blk_alloc ?_ _)); exact BK150.out) (by kernel_rfl) (by rfl) (by rfl) GE150.out ?_; intro ws_ hs_ hk_ hb_; have n0_ := Aside0.mk (Below.trans (by repeat (first | (with_reducible first | exact HB.out | apply below_alloc | apply pw_below_drewN | apply below_drew1) | exact HB.out)) hb_); clear HB; have HB := n0_; clear n0_; clear BK150; have BK150 := Aside0.mk hs_; clear hs_; (try (have z_ := Aside0.mk (blk_else BK149.out NB149_150.out hk_); clear BK149; have BK149 := z_; clear z_)); (try (have z_ := Aside0.mk (blk_else BK149.out NB149_150.out hk_); clear BK149; have BK149 := z_; clear z_)); (try (have z_ := Aside0.mk (blk_else BK149.out NB149_150.out hk_); clear BK149; have BK149 := z_; clear z_)); have hxs_ := blk_cell BK150.out; have hys_ := blk_frozen BK150.out; clear hk_ hb_) | ((with_reducible refine gate_dst (N := 2) rfl ?_); (try (refine gate_guard (by rfl) ?_; dsimp only)); refine box_event ?hg (N := 2) ?hd (cs := #[.int .i64 a0_0, .int .i64 a0_1, .int .i64 a0_2, .slice A0_3 l0_3.length c0_3, .slice A0_4 l0_4.length c0_4, .slice A0_5 l0_5.length c0_5, .slice A0_6 l0_6.length c0_6, .slice A0_7 l0_7.length c0_7, .slice A0_8 l0_8.length c0_8, .slice A0_9 l0_9.length c0_9, .slice A0_10 l0_10.length c0_10]) (t := 26) ?hr ?_; (case hd => rfl); (case hg => rfl); (case hr => first | (go_simp; done) | (go_simp; rfl)); intro gb149 hg w4 hbox hb; have n0_ := Aside0.mk (below_step (by repeat (first | (with_reducible first | exact HB.out | apply below_alloc | apply pw_below_drewN | apply below_drew1) | exact HB.out)) hb); have n1_ := Aside0.mk (hbox); have n2_ := Aside0.mk ((by rw [hg]; exact (below_size (by repeat (first | (with_reducible first | exact HB.out | apply below_alloc | apply pw_below_drewN | apply below_drew1) | exact HB.out))) : w.heap.size ≤ gb149)); have n3_ := Aside0.mk ((by rw [hg]; exact (below_size (by repeat (first | (with_reducible first | exact HB.out | apply below_alloc | apply pw_below_drewN | apply below_drew1) | exact HB.out))) : w.heap.size ≤ gb149)); clear HB; have HB := n0_; have BK149 := n1_; have GW149 := n2_; have GE149 := n3_; clear n0_ n1_ n2_ n3_; clear hb hbox hg) | ((with_reducible refine gate_dst (N := 3) rfl ?_); (try (refine gate_guard (by rfl) ?_; dsimp only)); refine box_event ?hg (N := 3) ?hd (cs := #[.int .i64 a1_0, .int .i64 a1_1, .int .i64 a1_2, .slice A1_3 l1_3.length c1_3, .slice A1_4 l1_4.length c1_4, .slice A1_5 l1_5.length c1_5, .slice A1_6 l1_6.length c1_6, .slice A1_7 l1_7.length c1_7, .slice A1_8 l1_8.length c1_8, .slice A1_9 l1_9.length c1_9, .slice A1_10 l1_10.length c1_10]) (t := 26) ?hr ?_; (case hd => rfl); (case hg => rfl); (case hr => first | (go_simp; done) | (go_simp; rfl)); intro gb150 hg w5 hbox hb; have n0_ := Aside0.mk (blk_below (g := gb149) (o := .cells #[.int .i64 a0_0, .int .i64 a0_1, .int .i64 a0_2, .slice A0_3 l0_3.length c0_3, .slice A0_4 l0_4.length c0_4, .slice A0_5 l0_5.length c0_5, .slice A0_6 l0_6.length c0_6, .slice A0_7 l0_7.length c0_7, .slice A0_8 l0_8.length c0_8, .slice A0_9 l0_9.length c0_9, .slice A0_10 l0_10.length c0_10] 26 (0, 0)) (by (with_reducible repeat (first | refine blk_drewN ?_ _ | refine blk_drew ?_ | refine blk_alloc ?_ _)); exact BK149.out) hb); have n1_ := Aside0.mk (below_step (by repeat (first | (with_reducible first | exact HB.out | apply below_alloc | apply pw_below_drewN | apply below_drew1 | refine below_set ?_ GE149.out) | exact HB.out)) hb); have n2_ := Aside0.mk (hbox); have n3_ := Aside0.mk ((by rw [hg]; exact (below_size (by repeat (first | (with_reducible first | exact HB.out | apply below_alloc | apply pw_below_drewN | apply below_drew1 | refine below_set ?_ GE149.out) | exact HB.out))) : w.heap.size ≤ gb150)); have n4_ := Aside0.mk ((by rw [hg]; exact (below_size (by repeat (first | (with_reducible first | exact HB.out | apply below_alloc | apply pw_below_drewN | apply below_drew1 | refine below_set ?_ GE149.out) | exact HB.out))) : w.heap.size ≤ gb150)); have n5_ := Aside0.mk ((by rw [hg]; exact Nat.ne_of_lt (blk_lt (g := gb149) (o := .cells #[.int .i64 a0_0, .int .i64 a0_1, .int .i64 a0_2, .slice A0_3 l0_3.length c0_3, .slice A0_4 l0_4.length c0_4, .slice A0_5 l0_5.length c0_5, .slice A0_6 l0_6.length c0_6, .slice A0_7 l0_7.length c0_7, .slice A0_8 l0_8.length c0_8, .slice A0_9 l0_9.length c0_9, .slice A0_10 l0_10.length c0_10] 26 (0, 0)) (by (with_reducible repeat (first | refine blk_drewN ?_ _ | refine blk_drew ?_ | refine blk_alloc ?_ _)); exact BK149.out)) : gb149 ≠ gb150)); have n6_ := Aside0.mk ((by rw [hg]; exact Nat.ne_of_gt (blk_lt (g := gb149) (o := .cells #[.int .i64 a0_0, .int .i64 a0_1, .int .i64 a0_2, .slice A0_3 l0_3.length c0_3, .slice A0_4 l0_4.length c0_4, .slice A0_5 l0_5.length c0_5, .slice A0_6 l0_6.length c0_6, .slice A0_7 l0_7.length c0_7, .slice A0_8 l0_8.length c0_8, .slice A0_9 l0_9.length c0_9, .slice A0_10 l0_10.length c0_10] 26 (0, 0)) (by (with_reducible repeat (first | refine blk_drewN ?_ _ | refine blk_drew ?_ | refine blk_alloc ?_ _)); exact BK149.out)) : gb150 ≠ gb149)); clear BK149; clear HB; have BK149 := n0_; have HB := n1_; have BK150 := n2_; have GW150 := n3_; have GE150 := n4_; have NB149_150 := n5_; have NB150_149 := n6_; clear n0_ n1_ n2_ n3_ n4_ n5_ n6_; clear hb hbox hg)))
 (try simp only [Act.put, List.setIfInBounds_toArray, List.set_cons_zero, List.set_cons_succ])
 go_cut [44] (fun v44 wc => ∃ (kq : Nat) (x44_2 : Bool), v44 = .bool x44_2 ∧ Aside0 (compositorref07_Same.j0 kq x44_2 a0_0 a0_1 a0_2 l0_3 l0_4 l0_5 l0_6 l0_7 l0_8 l0_9 l0_10 a1_0 a1_1 a1_2 l1_3 l1_4 l1_5 l1_6 l1_7 l1_8 l1_9 l1_10 = some r) ∧ Aside0 (kq ≤ k) ∧ Aside0 (wc.heap[gb149]? = some (.cells #[.int .i64 a0_0, .int .i64 a0_1, .int .i64 a0_2, (.slice A0_3 l0_3.length c0_3), (.slice A0_4 l0_4.length c0_4), (.slice A0_5 l0_5.length c0_5), (.slice A0_6 l0_6.length c0_6), (.slice A0_7 l0_7.length c0_7), (.slice A0_8 l0_8.length c0_8), (.slice A0_9 l0_9.length c0_9), (.slice A0_10 l0_10.length c0_10)] 26 (0, 0))) ∧ Aside0 (wc.heap[gb150]? = some (.cells #[.int .i64 a1_0, .int .i64 a1_1, .int .i64 a1_2, (.slice A1_3 l1_3.length c1_3), (.slice A1_4 l1_4.length c1_4), (.slice A1_5 l1_5.length c1_5), (.slice A1_6 l1_6.length c1_6), (.slice A1_7 l1_7.length c1_7), (.slice A1_8 l1_8.length c1_8), (.slice A1_9 l1_9.length c1_9), (.slice A1_10 l1_10.length c1_10)] 26 (0, 0))) ∧ Aside0 (Below w.heap.size w wc))
 case first => as_aux_lemma =>
  have H := HC3.out
  clear HC3
  by_cases c6 : a0_0 = a1_0
  ·rw [if_pos c6] at H
   have c6b0 : (a0_0 == a1_0) = true := beq_iff_eq.mpr c6
   have c6b1 : (a0_0 != a1_0) = false := bne_eq_false_iff_eq.mpr c6
   clear c6
   (first | rw [c6b0] | (simp only [i64_w, i32_w]; rw [c6b0]) | skip)
   by_cases c7 : a0_1 = a1_1
   ·rw [if_pos c7] at H
    have c7b0 : (a0_1 == a1_1) = true := beq_iff_eq.mpr c7
    have c7b1 : (a0_1 != a1_1) = false := bne_eq_false_iff_eq.mpr c7
    clear c7
    by_cases c8 : a0_2 = a1_2
    ·rw [if_pos c8] at H
     have c8b0 : (a0_2 == a1_2) = true := beq_iff_eq.mpr c8
     have c8b1 : (a0_2 != a1_2) = false := bne_eq_false_iff_eq.mpr c8
     clear c8
     by_cases c9 : (l0_3.length : Int) = (l1_3.length : Int)
     ·rw [if_pos c9] at H
      have c9b0 : ((l0_3.length : Int) == (l1_3.length : Int)) = true := beq_iff_eq.mpr c9
      have c9b1 : ((l0_3.length : Int) != (l1_3.length : Int)) = false := bne_eq_false_iff_eq.mpr c9
      have c9b2 : (l0_3.length == l1_3.length) = true := by first | simpa using c9 | (simp at c9 ⊢; omega)
      clear c9
      have H' := Aside0.mk H
      clear H
      have hnb10 := NB149_150.out
      have hnc10 := NB150_149.out
      have hcz11_0 := blk_cell BK149.out
      have hfz11_0 := blk_frozen BK149.out
      have hcz12_0 := blk_cell BK150.out
      have hfz12_0 := blk_frozen BK150.out
      go_wp2
      repeat (go_quiet (fail); try go_wp2)
      go_meet
      case rel => exact ⟨_, (((l0_8.length : Int) != (l1_8.length : Int))), (by first | rfl | (simp; done) | (simp [*]; done)), H', ⟨by first | omega | exact Nat.le_refl _⟩, ⟨by (with_reducible repeat (first | refine blk_drewN ?_ _ | refine blk_drew ?_ | refine blk_alloc ?_ _)); exact BK149.out⟩, ⟨by (with_reducible repeat (first | refine blk_drewN ?_ _ | refine blk_drew ?_ | refine blk_alloc ?_ _)); exact BK150.out⟩, ⟨by repeat (first | (with_reducible first | exact HB.out | apply below_alloc | apply pw_below_drewN | apply below_drew1 | refine below_set ?_ GE149.out | refine below_set ?_ GE150.out) | exact HB.out)⟩⟩
     ·rw [if_neg c9] at H
      have c9b0 : ((l0_3.length : Int) == (l1_3.length : Int)) = false := beq_eq_false_iff_ne.mpr c9
      have c9b1 : ((l0_3.length : Int) != (l1_3.length : Int)) = true := bne_iff_ne.mpr c9
      have c9b2 : (l0_3.length == l1_3.length) = false := by first | simpa using c9 | (simp at c9 ⊢; omega)
      have H' := Aside0.mk H
      clear H
      have hnb13 := NB149_150.out
      have hnc13 := NB150_149.out
      have hcz14_0 := blk_cell BK149.out
      have hfz14_0 := blk_frozen BK149.out
      have hcz15_0 := blk_cell BK150.out
      have hfz15_0 := blk_frozen BK150.out
      go_wp2
      repeat (go_quiet (fail); try go_wp2)
      go_meet
      case rel => exact ⟨_, (true), (by first | rfl | (simp; done) | (simp [*]; done)), H', ⟨by first | omega | exact Nat.le_refl _⟩, ⟨by (with_reducible repeat (first | refine blk_drewN ?_ _ | refine blk_drew ?_ | refine blk_alloc ?_ _)); exact BK149.out⟩, ⟨by (with_reducible repeat (first | refine blk_drewN ?_ _ | refine blk_drew ?_ | refine blk_alloc ?_ _)); exact BK150.out⟩, ⟨by repeat (first | (with_reducible first | exact HB.out | apply below_alloc | apply pw_below_drewN | apply below_drew1 | refine below_set ?_ GE149.out | refine below_set ?_ GE150.out) | exact HB.out)⟩⟩
    ·rw [if_neg c8] at H
     have c8b0 : (a0_2 == a1_2) = false := beq_eq_false_iff_ne.mpr c8
     have c8b1 : (a0_2 != a1_2) = true := bne_iff_ne.mpr c8
     have H' := Aside0.mk H
     clear H
     have hnb16 := NB149_150.out
     have hnc16 := NB150_149.out
     have hcz17_0 := blk_cell BK149.out
     have hfz17_0 := blk_frozen BK149.out
     have hcz18_0 := blk_cell BK150.out
     have hfz18_0 := blk_frozen BK150.out
     go_wp2
     repeat (go_quiet (fail); try go_wp2)
     go_meet
     case rel => exact ⟨_, (true), (by first | rfl | (simp; done) | (simp [*]; done)), H', ⟨by first | omega | exact Nat.le_refl _⟩, ⟨by (with_reducible repeat (first | refine blk_drewN ?_ _ | refine blk_drew ?_ | refine blk_alloc ?_ _)); exact BK149.out⟩, ⟨by (with_reducible repeat (first | refine blk_drewN ?_ _ | refine blk_drew ?_ | refine blk_alloc ?_ _)); exact BK150.out⟩, ⟨by repeat (first | (with_reducible first | exact HB.out | apply below_alloc | apply pw_below_drewN | apply below_drew1 | refine below_set ?_ GE149.out | refine below_set ?_ GE150.out) | exact HB.out)⟩⟩
   ·rw [if_neg c7] at H
    have c7b0 : (a0_1 == a1_1) = false := beq_eq_false_iff_ne.mpr c7
    have c7b1 : (a0_1 != a1_1) = true := bne_iff_ne.mpr c7
    have H' := Aside0.mk H
    clear H
    have hnb19 := NB149_150.out
    have hnc19 := NB150_149.out
    have hcz20_0 := blk_cell BK149.out
    have hfz20_0 := blk_frozen BK149.out
    have hcz21_0 := blk_cell BK150.out
    have hfz21_0 := blk_frozen BK150.out
    go_wp2
    repeat (go_quiet (fail); try go_wp2)
    go_meet
    case rel => exact ⟨_, (true), (by first | rfl | (simp; done) | (simp [*]; done)), H', ⟨by first | omega | exact Nat.le_refl _⟩, ⟨by (with_reducible repeat (first | refine blk_drewN ?_ _ | refine blk_drew ?_ | refine blk_alloc ?_ _)); exact BK149.out⟩, ⟨by (with_reducible repeat (first | refine blk_drewN ?_ _ | refine blk_drew ?_ | refine blk_alloc ?_ _)); exact BK150.out⟩, ⟨by repeat (first | (with_reducible first | exact HB.out | apply below_alloc | apply pw_below_drewN | apply below_drew1 | refine below_set ?_ GE149.out | refine below_set ?_ GE150.out) | exact HB.out)⟩⟩
  ·rw [if_neg c6] at H
   have c6b0 : (a0_0 == a1_0) = false := beq_eq_false_iff_ne.mpr c6
   have c6b1 : (a0_0 != a1_0) = true := bne_iff_ne.mpr c6
   (first | rw [c6b0] | (simp only [i64_w, i32_w]; rw [c6b0]) | skip)
   have H' := Aside0.mk H
   clear H
   have hnb22 := NB149_150.out
   have hnc22 := NB150_149.out
   have hcz23_0 := blk_cell BK149.out
   have hfz23_0 := blk_frozen BK149.out
   have hcz24_0 := blk_cell BK150.out
   have hfz24_0 := blk_frozen BK150.out
   go_wp2
   repeat (go_quiet (fail); try go_wp2)
   go_meet
   case rel => exact ⟨_, (true), (by first | rfl | (simp; done) | (simp [*]; done)), H', ⟨by first | omega | exact Nat.le_refl _⟩, ⟨by (with_reducible repeat (first | refine blk_drewN ?_ _ | refine blk_drew ?_ | refine blk_alloc ?_ _)); exact BK149.out⟩, ⟨by (with_reducible repeat (first | refine blk_drewN ?_ _ | refine blk_drew ?_ | refine blk_alloc ?_ _)); exact BK150.out⟩, ⟨by repeat (first | (with_reducible first | exact HB.out | apply below_alloc | apply pw_below_drewN | apply below_drew1 | refine below_set ?_ GE149.out | refine below_set ?_ GE150.out) | exact HB.out)⟩⟩
 case rest => as_aux_lemma =>
  clear HC3
  try clear c1
  try clear c2
  try clear p2
  try clear c6
  try clear c6b0
  try clear c6b1
  try clear c7
  try clear c7b0
  try clear c7b1
  try clear c8
  try clear c8b0
  try clear c8b1
  try clear c9
  try clear c9b0
  try clear c9b1
  try clear c9b2
  try clear c10
  try clear c13
  try clear c16
  try clear c19
  try clear c22
  try clear hcz11_0
  try clear hcz11_1
  try clear hcz11_10
  try clear hcz11_2
  try clear hcz11_3
  try clear hcz11_4
  try clear hcz11_5
  try clear hcz11_6
  try clear hcz11_7
  try clear hcz11_8
  try clear hcz11_9
  try clear hcz12_0
  try clear hcz12_1
  try clear hcz12_10
  try clear hcz12_2
  try clear hcz12_3
  try clear hcz12_4
  try clear hcz12_5
  try clear hcz12_6
  try clear hcz12_7
  try clear hcz12_8
  try clear hcz12_9
  try clear hcz14_0
  try clear hcz14_1
  try clear hcz14_10
  try clear hcz14_2
  try clear hcz14_3
  try clear hcz14_4
  try clear hcz14_5
  try clear hcz14_6
  try clear hcz14_7
  try clear hcz14_8
  try clear hcz14_9
  try clear hcz15_0
  try clear hcz15_1
  try clear hcz15_10
  try clear hcz15_2
  try clear hcz15_3
  try clear hcz15_4
  try clear hcz15_5
  try clear hcz15_6
  try clear hcz15_7
  try clear hcz15_8
  try clear hcz15_9
  try clear hcz17_0
  try clear hcz17_1
  try clear hcz17_10
  try clear hcz17_2
  try clear hcz17_3
  try clear hcz17_4
  try clear hcz17_5
  try clear hcz17_6
  try clear hcz17_7
  try clear hcz17_8
  try clear hcz17_9
  try clear hcz18_0
  try clear hcz18_1
  try clear hcz18_10
  try clear hcz18_2
  try clear hcz18_3
  try clear hcz18_4
  try clear hcz18_5
  try clear hcz18_6
  try clear hcz18_7
  try clear hcz18_8
  try clear hcz18_9
  try clear hcz20_0
  try clear hcz20_1
  try clear hcz20_10
  try clear hcz20_2
  try clear hcz20_3
  try clear hcz20_4
  try clear hcz20_5
  try clear hcz20_6
  try clear hcz20_7
  try clear hcz20_8
  try clear hcz20_9
  try clear hcz21_0
  try clear hcz21_1
  try clear hcz21_10
  try clear hcz21_2
  try clear hcz21_3
  try clear hcz21_4
  try clear hcz21_5
  try clear hcz21_6
  try clear hcz21_7
  try clear hcz21_8
  try clear hcz21_9
  try clear hcz23_0
  try clear hcz23_1
  try clear hcz23_10
  try clear hcz23_2
  try clear hcz23_3
  try clear hcz23_4
  try clear hcz23_5
  try clear hcz23_6
  try clear hcz23_7
  try clear hcz23_8
  try clear hcz23_9
  try clear hcz24_0
  try clear hcz24_1
  try clear hcz24_10
  try clear hcz24_2
  try clear hcz24_3
  try clear hcz24_4
  try clear hcz24_5
  try clear hcz24_6
  try clear hcz24_7
  try clear hcz24_8
  try clear hcz24_9
  try clear hfz11_0
  try clear hfz11_1
  try clear hfz11_10
  try clear hfz11_2
  try clear hfz11_3
  try clear hfz11_4
  try clear hfz11_5
  try clear hfz11_6
  try clear hfz11_7
  try clear hfz11_8
  try clear hfz11_9
  try clear hfz12_0
  try clear hfz12_1
  try clear hfz12_10
  try clear hfz12_2
  try clear hfz12_3
  try clear hfz12_4
  try clear hfz12_5
  try clear hfz12_6
  try clear hfz12_7
  try clear hfz12_8
  try clear hfz12_9
  try clear hfz14_0
  try clear hfz14_1
  try clear hfz14_10
  try clear hfz14_2
  try clear hfz14_3
  try clear hfz14_4
  try clear hfz14_5
  try clear hfz14_6
  try clear hfz14_7
  try clear hfz14_8
  try clear hfz14_9
  try clear hfz15_0
  try clear hfz15_1
  try clear hfz15_10
  try clear hfz15_2
  try clear hfz15_3
  try clear hfz15_4
  try clear hfz15_5
  try clear hfz15_6
  try clear hfz15_7
  try clear hfz15_8
  try clear hfz15_9
  try clear hfz17_0
  try clear hfz17_1
  try clear hfz17_10
  try clear hfz17_2
  try clear hfz17_3
  try clear hfz17_4
  try clear hfz17_5
  try clear hfz17_6
  try clear hfz17_7
  try clear hfz17_8
  try clear hfz17_9
  try clear hfz18_0
  try clear hfz18_1
  try clear hfz18_10
  try clear hfz18_2
  try clear hfz18_3
  try clear hfz18_4
  try clear hfz18_5
  try clear hfz18_6
  try clear hfz18_7
  try clear hfz18_8
  try clear hfz18_9
  try clear hfz20_0
  try clear hfz20_1
  try clear hfz20_10
  try clear hfz20_2
  try clear hfz20_3
  try clear hfz20_4
  try clear hfz20_5
  try clear hfz20_6
  try clear hfz20_7
  try clear hfz20_8
  try clear hfz20_9
  try clear hfz21_0
  try clear hfz21_1
  try clear hfz21_10
  try clear hfz21_2
  try clear hfz21_3
  try clear hfz21_4
  try clear hfz21_5
  try clear hfz21_6
  try clear hfz21_7
  try clear hfz21_8
  try clear hfz21_9
  try clear hfz23_0
  try clear hfz23_1
  try clear hfz23_10
  try clear hfz23_2
  try clear hfz23_3
  try clear hfz23_4
  try clear hfz23_5
  try clear hfz23_6
  try clear hfz23_7
  try clear hfz23_8
  try clear hfz23_9
  try clear hfz24_0
  try clear hfz24_1
  try clear hfz24_10
  try clear hfz24_2
  try clear hfz24_3
  try clear hfz24_4
  try clear hfz24_5
  try clear hfz24_6
  try clear hfz24_7
  try clear hfz24_8
  try clear hfz24_9
  obtain ⟨kq, x44_2, rfl, HA, HJ2, BK149, BK150, HB⟩ := hcut
  cases kq with
  | zero => exact absurd HA.out (by simp [compositorref07_Same.j0])
  | succ kj2 =>
   have H := HA.out
   clear HA
   simp only [compositorref07_Same.j0] at H
   by_cases c25 : x44_2 = true
   ·subst c25
    have H1 : (some false) = some r := by rw [if_pos rfl] at H; exact H
    clear H
    have H := H1
    clear H1
    obtain rfl := Option.some.inj H
    go_wp2
    repeat (go_quiet (fail); try go_wp2)
    go_ret
    exact ⟨by first | rfl | (simp [errW_none, errW_some] <;> rfl) | (simp [*, errW_none, errW_some] <;> rfl), by repeat (first | (with_reducible first | exact HB.out | apply below_alloc | apply pw_below_drewN | apply below_drew1 | refine below_set ?_ GE149.out | refine below_set ?_ GE150.out) | exact HB.out)⟩
   ·replace c25 := Bool.eq_false_iff.mpr c25
    subst c25
    have H1 : (compositorref07_Same.l0 kj2 0 a0_0 a0_1 a0_2 l0_3 l0_4 l0_5 l0_6 l0_7 l0_8 l0_9 l0_10 a1_0 a1_1 a1_2 l1_3 l1_4 l1_5 l1_6 l1_7 l1_8 l1_9 l1_10) = some r := by rw [if_neg (show ¬ (false = true) by decide)] at H; exact H
    clear H
    have H := H1
    clear H1
    have H' := Aside0.mk H
    clear H
    go_wp2
    repeat (go_quiet (fail); try go_wp2)
    go_loopg [5] kj2 (fun kq v5 w' => ∃ (x5_2 : Int), v5 = .int .i64 x5_2 ∧ Aside0 (compositorref07_Same.l0 kq x5_2 a0_0 a0_1 a0_2 l0_3 l0_4 l0_5 l0_6 l0_7 l0_8 l0_9 l0_10 a1_0 a1_1 a1_2 l1_3 l1_4 l1_5 l1_6 l1_7 l1_8 l1_9 l1_10 = some r) ∧ Aside0 (kq ≤ kj2) ∧ Aside0 (w'.heap[gb149]? = some (.cells #[.int .i64 a0_0, .int .i64 a0_1, .int .i64 a0_2, (.slice A0_3 l0_3.length c0_3), (.slice A0_4 l0_4.length c0_4), (.slice A0_5 l0_5.length c0_5), (.slice A0_6 l0_6.length c0_6), (.slice A0_7 l0_7.length c0_7), (.slice A0_8 l0_8.length c0_8), (.slice A0_9 l0_9.length c0_9), (.slice A0_10 l0_10.length c0_10)] 26 (0, 0))) ∧ Aside0 (w'.heap[gb150]? = some (.cells #[.int .i64 a1_0, .int .i64 a1_1, .int .i64 a1_2, (.slice A1_3 l1_3.length c1_3), (.slice A1_4 l1_4.length c1_4), (.slice A1_5 l1_5.length c1_5), (.slice A1_6 l1_6.length c1_6), (.slice A1_7 l1_7.length c1_7), (.slice A1_8 l1_8.length c1_8), (.slice A1_9 l1_9.length c1_9), (.slice A1_10 l1_10.length c1_10)] 26 (0, 0))) ∧ Aside0 (Below w.heap.size w w'))
    case atStart => exact ⟨(0), (by first | rfl | (simp; done) | (simp [*]; done)), H', ⟨Nat.le_refl _⟩, ⟨by (with_reducible repeat (first | refine blk_drewN ?_ _ | refine blk_drew ?_ | refine blk_alloc ?_ _)); exact BK149.out⟩, ⟨by (with_reducible repeat (first | refine blk_drewN ?_ _ | refine blk_drew ?_ | refine blk_alloc ?_ _)); exact BK150.out⟩, ⟨by repeat (first | (with_reducible first | exact HB.out | apply below_alloc | apply pw_below_drewN | apply below_drew1 | refine below_set ?_ GE149.out | refine below_set ?_ GE150.out) | exact HB.out)⟩⟩
    case round =>
     clear H'
     try clear c1
     try clear c2
     try clear p2
     try clear c6
     try clear c6b0
     try clear c6b1
     try clear c7
     try clear c7b0
     try clear c7b1
     try clear c8
     try clear c8b0
     try clear c8b1
     try clear c9
     try clear c9b0
     try clear c9b1
     try clear c9b2
     try clear c10
     try clear c13
     try clear c16
     try clear c19
     try clear c22
     try clear c25
     try clear hcz11_0
     try clear hcz11_1
     try clear hcz11_10
     try clear hcz11_2
     try clear hcz11_3
     try clear hcz11_4
     try clear hcz11_5
     try clear hcz11_6
     try clear hcz11_7
     try clear hcz11_8
     try clear hcz11_9
     try clear hcz12_0
     try clear hcz12_1
     try clear hcz12_10
     try clear hcz12_2
     try clear hcz12_3
     try clear hcz12_4
     try clear hcz12_5
     try clear hcz12_6
     try clear hcz12_7
     try clear hcz12_8
     try clear hcz12_9
     try clear hcz14_0
     try clear hcz14_1
     try clear hcz14_10
     try clear hcz14_2
     try clear hcz14_3
     try clear hcz14_4
     try clear hcz14_5
     try clear hcz14_6
     try clear hcz14_7
     try clear hcz14_8
     try clear hcz14_9
     try clear hcz15_0
     try clear hcz15_1
     try clear hcz15_10
     try clear hcz15_2
     try clear hcz15_3
     try clear hcz15_4
     try clear hcz15_5
     try clear hcz15_6
     try clear hcz15_7
     try clear hcz15_8
     try clear hcz15_9
     try clear hcz17_0
     try clear hcz17_1
     try clear hcz17_10
     try clear hcz17_2
     try clear hcz17_3
     try clear hcz17_4
     try clear hcz17_5
     try clear hcz17_6
     try clear hcz17_7
     try clear hcz17_8
     try clear hcz17_9
     try clear hcz18_0
     try clear hcz18_1
     try clear hcz18_10
     try clear hcz18_2
     try clear hcz18_3
     try clear hcz18_4
     try clear hcz18_5
     try clear hcz18_6
     try clear hcz18_7
     try clear hcz18_8
     try clear hcz18_9
     try clear hcz20_0
     try clear hcz20_1
     try clear hcz20_10
     try clear hcz20_2
     try clear hcz20_3
     try clear hcz20_4
     try clear hcz20_5
     try clear hcz20_6
     try clear hcz20_7
     try clear hcz20_8
     try clear hcz20_9
     try clear hcz21_0
     try clear hcz21_1
     try clear hcz21_10
     try clear hcz21_2
     try clear hcz21_3
     try clear hcz21_4
     try clear hcz21_5
     try clear hcz21_6
     try clear hcz21_7
     try clear hcz21_8
     try clear hcz21_9
     try clear hcz23_0
     try clear hcz23_1
     try clear hcz23_10
     try clear hcz23_2
     try clear hcz23_3
     try clear hcz23_4
     try clear hcz23_5
     try clear hcz23_6
     try clear hcz23_7
     try clear hcz23_8
     try clear hcz23_9
     try clear hcz24_0
     try clear hcz24_1
     try clear hcz24_10
     try clear hcz24_2
     try clear hcz24_3
     try clear hcz24_4
     try clear hcz24_5
     try clear hcz24_6
     try clear hcz24_7
     try clear hcz24_8
     try clear hcz24_9
     try clear hfz11_0
     try clear hfz11_1
     try clear hfz11_10
     try clear hfz11_2
     try clear hfz11_3
     try clear hfz11_4
     try clear hfz11_5
     try clear hfz11_6
     try clear hfz11_7
     try clear hfz11_8
     try clear hfz11_9
     try clear hfz12_0
     try clear hfz12_1
     try clear hfz12_10
     try clear hfz12_2
     try clear hfz12_3
     try clear hfz12_4
     try clear hfz12_5
     try clear hfz12_6
     try clear hfz12_7
     try clear hfz12_8
     try clear hfz12_9
     try clear hfz14_0
     try clear hfz14_1
     try clear hfz14_10
     try clear hfz14_2
     try clear hfz14_3
     try clear hfz14_4
     try clear hfz14_5
     try clear hfz14_6
     try clear hfz14_7
     try clear hfz14_8
     try clear hfz14_9
     try clear hfz15_0
     try clear hfz15_1
     try clear hfz15_10
     try clear hfz15_2
     try clear hfz15_3
     try clear hfz15_4
     try clear hfz15_5
     try clear hfz15_6
     try clear hfz15_7
     try clear hfz15_8
     try clear hfz15_9
     try clear hfz17_0
     try clear hfz17_1
     try clear hfz17_10
     try clear hfz17_2
     try clear hfz17_3
     try clear hfz17_4
     try clear hfz17_5
     try clear hfz17_6
     try clear hfz17_7
     try clear hfz17_8
     try clear hfz17_9
     try clear hfz18_0
     try clear hfz18_1
     try clear hfz18_10
     try clear hfz18_2
     try clear hfz18_3
     try clear hfz18_4
     try clear hfz18_5
     try clear hfz18_6
     try clear hfz18_7
     try clear hfz18_8
     try clear hfz18_9
     try clear hfz20_0
     try clear hfz20_1
     try clear hfz20_10
     try clear hfz20_2
     try clear hfz20_3
     try clear hfz20_4
     try clear hfz20_5
     try clear hfz20_6
     try clear hfz20_7
     try clear hfz20_8
     try clear hfz20_9
     try clear hfz21_0
     try clear hfz21_1
     try clear hfz21_10
     try clear hfz21_2
     try clear hfz21_3
     try clear hfz21_4
     try clear hfz21_5
     try clear hfz21_6
     try clear hfz21_7
     try clear hfz21_8
     try clear hfz21_9
     try clear hfz23_0
     try clear hfz23_1
     try clear hfz23_10
     try clear hfz23_2
     try clear hfz23_3
     try clear hfz23_4
     try clear hfz23_5
     try clear hfz23_6
     try clear hfz23_7
     try clear hfz23_8
     try clear hfz23_9
     try clear hfz24_0
     try clear hfz24_1
     try clear hfz24_10
     try clear hfz24_2
     try clear hfz24_3
     try clear hfz24_4
     try clear hfz24_5
     try clear hfz24_6
     try clear hfz24_7
     try clear hfz24_8
     try clear hfz24_9
     try clear p2
     obtain ⟨x5_2, rfl, HA, HK2, BK149, BK150, HB⟩ := hrel
     cases gk with
     | zero => exact absurd HA.out (by simp [compositorref07_Same.l0])
     | succ k2 =>
      have H := HA.out
      clear HA
      simp only [compositorref07_Same.l0] at H
      by_cases c26 : x5_2 < (l0_3.length : Int)
      ·rw [if_pos c26] at H
       have c26b0 : decide (x5_2 < (l0_3.length : Int)) = true := decide_eq_true c26
       clear c26
       by_cases c27 : 0 ≤ x5_2
       ·rw [if_pos c27] at H
        have c27b0 : decide (0 ≤ x5_2) = true := decide_eq_true c27
        clear c27
        by_cases c28 : x5_2 < (l1_3.length : Int)
        ·rw [if_pos c28] at H
         have c28b0 : decide (x5_2 < (l1_3.length : Int)) = true := decide_eq_true c28
         clear c28
         by_cases c29 : (!(((rd_T42 l0_3 x5_2).f0) == ((rd_T42 l1_3 x5_2).f0)) || (!(((rd_T42 l0_3 x5_2).f1) == ((rd_T42 l1_3 x5_2).f1)) || (!(((rd_T42 l0_3 x5_2).f2) == ((rd_T42 l1_3 x5_2).f2)) || (!(((rd_T42 l0_3 x5_2).f3) == ((rd_T42 l1_3 x5_2).f3)) || (!(((rd_T42 l0_3 x5_2).f4) == ((rd_T42 l1_3 x5_2).f4)) || (!(((rd_T42 l0_3 x5_2).f5) == ((rd_T42 l1_3 x5_2).f5)))))))) = true
         ·rw [if_pos c29] at H
          have c29b0 : (!(((rd_T42 l0_3 x5_2).f0) == ((rd_T42 l1_3 x5_2).f0)) || (!(((rd_T42 l0_3 x5_2).f1) == ((rd_T42 l1_3 x5_2).f1)) || (!(((rd_T42 l0_3 x5_2).f2) == ((rd_T42 l1_3 x5_2).f2)) || (!(((rd_T42 l0_3 x5_2).f3) == ((rd_T42 l1_3 x5_2).f3)) || (!(((rd_T42 l0_3 x5_2).f4) == ((rd_T42 l1_3 x5_2).f4)) || (!(((rd_T42 l0_3 x5_2).f5) == ((rd_T42 l1_3 x5_2).f5)))))))) = true := c29
          clear c29
          obtain rfl := Option.some.inj H
          have hnb30 := NB149_150.out
          have hnc30 := NB150_149.out
          have hcz31_0 := blk_cell BK149.out
          have hfz31_0 := blk_frozen BK149.out
          have p151 : 0 ≤ (x5_2 : Int) := odt
          have q151 : x5_2 < (l0_3.length : Int) := odt
          obtain ⟨ad151, e151, hx151_0, hx151_1, hx151_2, hx151_3, hx151_4, hx151_5⟩ := at_T42 HR0_3.out x5_2 p151 q151
          cases e151
          replace hx151_0 := (HB.out.cell (World.block_lt_of_cell? w _ hx151_0)).trans hx151_0
          replace hx151_1 := (HB.out.cell (World.block_lt_of_cell? w _ hx151_1)).trans hx151_1
          replace hx151_2 := (HB.out.cell (World.block_lt_of_cell? w _ hx151_2)).trans hx151_2
          replace hx151_3 := (HB.out.cell (World.block_lt_of_cell? w _ hx151_3)).trans hx151_3
          replace hx151_4 := (HB.out.cell (World.block_lt_of_cell? w _ hx151_4)).trans hx151_4
          replace hx151_5 := (HB.out.cell (World.block_lt_of_cell? w _ hx151_5)).trans hx151_5
          replace p151 := eq_true p151
          replace q151 := eq_true q151
          have hcz32_0 := blk_cell BK150.out
          have hfz32_0 := blk_frozen BK150.out
          have p152 : 0 ≤ (x5_2 : Int) := odt
          have q152 : x5_2 < (l1_3.length : Int) := odt
          obtain ⟨ad152, e152, hx152_0, hx152_1, hx152_2, hx152_3, hx152_4, hx152_5⟩ := at_T42 HR1_3.out x5_2 p152 q152
          cases e152
          replace hx152_0 := (HB.out.cell (World.block_lt_of_cell? w _ hx152_0)).trans hx152_0
          replace hx152_1 := (HB.out.cell (World.block_lt_of_cell? w _ hx152_1)).trans hx152_1
          replace hx152_2 := (HB.out.cell (World.block_lt_of_cell? w _ hx152_2)).trans hx152_2
          replace hx152_3 := (HB.out.cell (World.block_lt_of_cell? w _ hx152_3)).trans hx152_3
          replace hx152_4 := (HB.out.cell (World.block_lt_of_cell? w _ hx152_4)).trans hx152_4
          replace hx152_5 := (HB.out.cell (World.block_lt_of_cell? w _ hx152_5)).trans hx152_5
          replace p152 := eq_true p152
          replace q152 := eq_true q152
          go_wp2
          repeat (go_quiet (fail); try go_wp2)
          go_ret
          exact ⟨by first | rfl | (simp [errW_none, errW_some] <;> rfl) | (simp [*, errW_none, errW_some] <;> rfl), by repeat (first | (with_reducible first | exact HB.out | apply below_alloc | apply pw_below_drewN | apply below_drew1 | refine below_set ?_ GE149.out | refine below_set ?_ GE150.out) | exact HB.out)⟩
         ·rw [if_neg c29] at H
          have c29b0 : (!(((rd_T42 l0_3 x5_2).f0) == ((rd_T42 l1_3 x5_2).f0)) || (!(((rd_T42 l0_3 x5_2).f1) == ((rd_T42 l1_3 x5_2).f1)) || (!(((rd_T42 l0_3 x5_2).f2) == ((rd_T42 l1_3 x5_2).f2)) || (!(((rd_T42 l0_3 x5_2).f3) == ((rd_T42 l1_3 x5_2).f3)) || (!(((rd_T42 l0_3 x5_2).f4) == ((rd_T42 l1_3 x5_2).f4)) || (!(((rd_T42 l0_3 x5_2).f5) == ((rd_T42 l1_3 x5_2).f5)))))))) = false := by simpa using c29
          clear c29
          have H' := Aside0.mk H
          clear H
          have hnb33 := NB149_150.out
          have hnc33 := NB150_149.out
          have hcz34_0 := blk_cell BK149.out
          have hfz34_0 := blk_frozen BK149.out
          have p151 : 0 ≤ (x5_2 : Int) := odt
          have q151 : x5_2 < (l0_3.length : Int) := odt
          obtain ⟨ad151, e151, hx151_0, hx151_1, hx151_2, hx151_3, hx151_4, hx151_5⟩ := at_T42 HR0_3.out x5_2 p151 q151
          cases e151
          replace hx151_0 := (HB.out.cell (World.block_lt_of_cell? w _ hx151_0)).trans hx151_0
          replace hx151_1 := (HB.out.cell (World.block_lt_of_cell? w _ hx151_1)).trans hx151_1
          replace hx151_2 := (HB.out.cell (World.block_lt_of_cell? w _ hx151_2)).trans hx151_2
          replace hx151_3 := (HB.out.cell (World.block_lt_of_cell? w _ hx151_3)).trans hx151_3
          replace hx151_4 := (HB.out.cell (World.block_lt_of_cell? w _ hx151_4)).trans hx151_4
          replace hx151_5 := (HB.out.cell (World.block_lt_of_cell? w _ hx151_5)).trans hx151_5
          replace p151 := eq_true p151
          replace q151 := eq_true q151
          have hcz35_0 := blk_cell BK150.out
          have hfz35_0 := blk_frozen BK150.out
          have p152 : 0 ≤ (x5_2 : Int) := odt
          have q152 : x5_2 < (l1_3.length : Int) := odt
          obtain ⟨ad152, e152, hx152_0, hx152_1, hx152_2, hx152_3, hx152_4, hx152_5⟩ := at_T42 HR1_3.out x5_2 p152 q152
          cases e152
          replace hx152_0 := (HB.out.cell (World.block_lt_of_cell? w _ hx152_0)).trans hx152_0
          replace hx152_1 := (HB.out.cell (World.block_lt_of_cell? w _ hx152_1)).trans hx152_1
          replace hx152_2 := (HB.out.cell (World.block_lt_of_cell? w _ hx152_2)).trans hx152_2
          replace hx152_3 := (HB.out.cell (World.block_lt_of_cell? w _ hx152_3)).trans hx152_3
          replace hx152_4 := (HB.out.cell (World.block_lt_of_cell? w _ hx152_4)).trans hx152_4
          replace hx152_5 := (HB.out.cell (World.block_lt_of_cell? w _ hx152_5)).trans hx152_5
          replace p152 := eq_true p152
          replace q152 := eq_true q152
          go_wp2
          repeat (go_quiet (fail); try go_wp2)
          go_roundg k2
          case measure => have := HJ2.out; have := HK2.out; omega
          case rel => exact ⟨(wrap64 (x5_2 + 1)), (by first | rfl | (simp; done) | (simp [*]; done)), H', ⟨by have := HJ2.out; have := HK2.out; omega⟩, ⟨by (with_reducible repeat (first | refine blk_drewN ?_ _ | refine blk_drew ?_ | refine blk_alloc ?_ _)); exact BK149.out⟩, ⟨by (with_reducible repeat (first | refine blk_drewN ?_ _ | refine blk_drew ?_ | refine blk_alloc ?_ _)); exact BK150.out⟩, ⟨by repeat (first | (with_reducible first | exact HB.out | apply below_alloc | apply pw_below_drewN | apply below_drew1 | refine below_set ?_ GE149.out | refine below_set ?_ GE150.out) | exact HB.out)⟩⟩
        ·rw [if_neg c28] at H
         exact absurd H (by simp)
       ·rw [if_neg c27] at H
        exact absurd H (by simp)
      ·rw [if_neg c26] at H
       have c26b0 : decide (x5_2 < (l0_3.length : Int)) = false := decide_eq_false c26
       clear c26
       have H' := Aside0.mk H
       clear H
       have hnb36 := NB149_150.out
       have hnc36 := NB150_149.out
       have hcz37_0 := blk_cell BK149.out
       have hfz37_0 := blk_frozen BK149.out
       go_wp2
       repeat (go_quiet (fail); try go_wp2)
       go_loopg [6] k2 (fun kq v6 w' => ∃ (x6_3 : Int), v6 = .int .i64 x6_3 ∧ Aside0 (compositorref07_Same.l1 kq x6_3 a0_0 a0_1 a0_2 l0_3 l0_4 l0_5 l0_6 l0_7 l0_8 l0_9 l0_10 a1_0 a1_1 a1_2 l1_3 l1_4 l1_5 l1_6 l1_7 l1_8 l1_9 l1_10 = some r) ∧ Aside0 (kq ≤ k2) ∧ Aside0 (w'.heap[gb149]? = some (.cells #[.int .i64 a0_0, .int .i64 a0_1, .int .i64 a0_2, (.slice A0_3 l0_3.length c0_3), (.slice A0_4 l0_4.length c0_4), (.slice A0_5 l0_5.length c0_5), (.slice A0_6 l0_6.length c0_6), (.slice A0_7 l0_7.length c0_7), (.slice A0_8 l0_8.length c0_8), (.slice A0_9 l0_9.length c0_9), (.slice A0_10 l0_10.length c0_10)] 26 (0, 0))) ∧ Aside0 (w'.heap[gb150]? = some (.cells #[.int .i64 a1_0, .int .i64 a1_1, .int .i64 a1_2, (.slice A1_3 l1_3.length c1_3), (.slice A1_4 l1_4.length c1_4), (.slice A1_5 l1_5.length c1_5), (.slice A1_6 l1_6.length c1_6), (.slice A1_7 l1_7.length c1_7), (.slice A1_8 l1_8.length c1_8), (.slice A1_9 l1_9.length c1_9), (.slice A1_10 l1_10.length c1_10)] 26 (0, 0))) ∧ Aside0 (Below w.heap.size w w'))
       case atStart => exact ⟨(0), (by first | rfl | (simp; done) | (simp [*]; done)), H', ⟨Nat.le_refl _⟩, ⟨by (with_reducible repeat (first | refine blk_drewN ?_ _ | refine blk_drew ?_ | refine blk_alloc ?_ _)); exact BK149.out⟩, ⟨by (with_reducible repeat (first | refine blk_drewN ?_ _ | refine blk_drew ?_ | refine blk_alloc ?_ _)); exact BK150.out⟩, ⟨by repeat (first | (with_reducible first | exact HB.out | apply below_alloc | apply pw_below_drewN | apply below_drew1 | refine below_set ?_ GE149.out | refine below_set ?_ GE150.out) | exact HB.out)⟩⟩
       case round =>
        clear H'
        try clear c1
        try clear p1
        try clear q1
        try clear hx1
        try clear c2
        try clear p2
        try clear c3
        try clear c6
        try clear c6b0
        try clear c6b1
        try clear p6
        try clear c7
        try clear c7b0
        try clear c7b1
        try clear c8
        try clear c8b0
        try clear c8b1
        try clear c9
        try clear c9b0
        try clear c9b1
        try clear c9b2
        try clear c10
        try clear c13
        try clear p15
        try clear q15
        try clear hx15
        try clear c16
        try clear c19
        try clear c22
        try clear c25
        try clear c26
        try clear c26b0
        try clear c27
        try clear c27b0
        try clear c28
        try clear c28b0
        try clear c29
        try clear c29b0
        try clear c30
        try clear c33
        try clear c36
        try clear hcz11_0
        try clear hcz11_1
        try clear hcz11_10
        try clear hcz11_2
        try clear hcz11_3
        try clear hcz11_4
        try clear hcz11_5
        try clear hcz11_6
        try clear hcz11_7
        try clear hcz11_8
        try clear hcz11_9
        try clear hcz12_0
        try clear hcz12_1
        try clear hcz12_10
        try clear hcz12_2
        try clear hcz12_3
        try clear hcz12_4
        try clear hcz12_5
        try clear hcz12_6
        try clear hcz12_7
        try clear hcz12_8
        try clear hcz12_9
        try clear hcz14_0
        try clear hcz14_1
        try clear hcz14_10
        try clear hcz14_2
        try clear hcz14_3
        try clear hcz14_4
        try clear hcz14_5
        try clear hcz14_6
        try clear hcz14_7
        try clear hcz14_8
        try clear hcz14_9
        try clear hcz15_0
        try clear hcz15_1
        try clear hcz15_10
        try clear hcz15_2
        try clear hcz15_3
        try clear hcz15_4
        try clear hcz15_5
        try clear hcz15_6
        try clear hcz15_7
        try clear hcz15_8
        try clear hcz15_9
        try clear hcz17_0
        try clear hcz17_1
        try clear hcz17_10
        try clear hcz17_2
        try clear hcz17_3
        try clear hcz17_4
        try clear hcz17_5
        try clear hcz17_6
        try clear hcz17_7
        try clear hcz17_8
        try clear hcz17_9
        try clear hcz18_0
        try clear hcz18_1
        try clear hcz18_10
        try clear hcz18_2
        try clear hcz18_3
        try clear hcz18_4
        try clear hcz18_5
        try clear hcz18_6
        try clear hcz18_7
        try clear hcz18_8
        try clear hcz18_9
        try clear hcz20_0
        try clear hcz20_1
        try clear hcz20_10
        try clear hcz20_2
        try clear hcz20_3
        try clear hcz20_4
        try clear hcz20_5
        try clear hcz20_6
        try clear hcz20_7
        try clear hcz20_8
        try clear hcz20_9
        try clear hcz21_0
        try clear hcz21_1
        try clear hcz21_10
        try clear hcz21_2
        try clear hcz21_3
        try clear hcz21_4
        try clear hcz21_5
        try clear hcz21_6
        try clear hcz21_7
        try clear hcz21_8
        try clear hcz21_9
        try clear hcz23_0
        try clear hcz23_1
        try clear hcz23_10
        try clear hcz23_2
        try clear hcz23_3
        try clear hcz23_4
        try clear hcz23_5
        try clear hcz23_6
        try clear hcz23_7
        try clear hcz23_8
        try clear hcz23_9
        try clear hcz24_0
        try clear hcz24_1
        try clear hcz24_10
        try clear hcz24_2
        try clear hcz24_3
        try clear hcz24_4
        try clear hcz24_5
        try clear hcz24_6
        try clear hcz24_7
        try clear hcz24_8
        try clear hcz24_9
        try clear hcz31_0
        try clear hcz31_1
        try clear hcz31_10
        try clear hcz31_2
        try clear hcz31_3
        try clear hcz31_4
        try clear hcz31_5
        try clear hcz31_6
        try clear hcz31_7
        try clear hcz31_8
        try clear hcz31_9
        try clear hcz32_0
        try clear hcz32_1
        try clear hcz32_10
        try clear hcz32_2
        try clear hcz32_3
        try clear hcz32_4
        try clear hcz32_5
        try clear hcz32_6
        try clear hcz32_7
        try clear hcz32_8
        try clear hcz32_9
        try clear hcz34_0
        try clear hcz34_1
        try clear hcz34_10
        try clear hcz34_2
        try clear hcz34_3
        try clear hcz34_4
        try clear hcz34_5
        try clear hcz34_6
        try clear hcz34_7
        try clear hcz34_8
        try clear hcz34_9
        try clear hcz35_0
        try clear hcz35_1
        try clear hcz35_10
        try clear hcz35_2
        try clear hcz35_3
        try clear hcz35_4
        try clear hcz35_5
        try clear hcz35_6
        try clear hcz35_7
        try clear hcz35_8
        try clear hcz35_9
        try clear hcz37_0
        try clear hcz37_1
        try clear hcz37_10
        try clear hcz37_2
        try clear hcz37_3
        try clear hcz37_4
        try clear hcz37_5
        try clear hcz37_6
        try clear hcz37_7
        try clear hcz37_8
        try clear hcz37_9
        try clear hfz11_0
        try clear hfz11_1
        try clear hfz11_10
        try clear hfz11_2
        try clear hfz11_3
        try clear hfz11_4
        try clear hfz11_5
        try clear hfz11_6
        try clear hfz11_7
        try clear hfz11_8
        try clear hfz11_9
        try clear hfz12_0
        try clear hfz12_1
        try clear hfz12_10
        try clear hfz12_2
        try clear hfz12_3
        try clear hfz12_4
        try clear hfz12_5
        try clear hfz12_6
        try clear hfz12_7
        try clear hfz12_8
        try clear hfz12_9
        try clear hfz14_0
        try clear hfz14_1
        try clear hfz14_10
        try clear hfz14_2
        try clear hfz14_3
        try clear hfz14_4
        try clear hfz14_5
        try clear hfz14_6
        try clear hfz14_7
        try clear hfz14_8
        try clear hfz14_9
        try clear hfz15_0
        try clear hfz15_1
        try clear hfz15_10
        try clear hfz15_2
        try clear hfz15_3
        try clear hfz15_4
        try clear hfz15_5
        try clear hfz15_6
        try clear hfz15_7
        try clear hfz15_8
        try clear hfz15_9
        try clear hfz17_0
        try clear hfz17_1
        try clear hfz17_10
        try clear hfz17_2
        try clear hfz17_3
        try clear hfz17_4
        try clear hfz17_5
        try clear hfz17_6
        try clear hfz17_7
        try clear hfz17_8
        try clear hfz17_9
        try clear hfz18_0
        try clear hfz18_1
        try clear hfz18_10
        try clear hfz18_2
        try clear hfz18_3
        try clear hfz18_4
        try clear hfz18_5
        try clear hfz18_6
        try clear hfz18_7
        try clear hfz18_8
        try clear hfz18_9
        try clear hfz20_0
        try clear hfz20_1
        try clear hfz20_10
        try clear hfz20_2
        try clear hfz20_3
        try clear hfz20_4
        try clear hfz20_5
        try clear hfz20_6
        try clear hfz20_7
        try clear hfz20_8
        try clear hfz20_9
        try clear hfz21_0
        try clear hfz21_1
        try clear hfz21_10
        try clear hfz21_2
        try clear hfz21_3
        try clear hfz21_4
        try clear hfz21_5
        try clear hfz21_6
        try clear hfz21_7
        try clear hfz21_8
        try clear hfz21_9
        try clear hfz23_0
        try clear hfz23_1
        try clear hfz23_10
        try clear hfz23_2
        try clear hfz23_3
        try clear hfz23_4
        try clear hfz23_5
        try clear hfz23_6
        try clear hfz23_7
        try clear hfz23_8
        try clear hfz23_9
        try clear hfz24_0
        try clear hfz24_1
        try clear hfz24_10
        try clear hfz24_2
        try clear hfz24_3
        try clear hfz24_4
        try clear hfz24_5
        try clear hfz24_6
        try clear hfz24_7
        try clear hfz24_8
        try clear hfz24_9
        try clear hfz31_0
        try clear hfz31_1
        try clear hfz31_10
        try clear hfz31_2
        try clear hfz31_3
        try clear hfz31_4
        try clear hfz31_5
        try clear hfz31_6
        try clear hfz31_7
        try clear hfz31_8
        try clear hfz31_9
        try clear hfz32_0
        try clear hfz32_1
        try clear hfz32_10
        try clear hfz32_2
        try clear hfz32_3
        try clear hfz32_4
        try clear hfz32_5
        try clear hfz32_6
        try clear hfz32_7
        try clear hfz32_8
        try clear hfz32_9
        try clear hfz34_0
        try clear hfz34_1
        try clear hfz34_10
        try clear hfz34_2
        try clear hfz34_3
        try clear hfz34_4
        try clear hfz34_5
        try clear hfz34_6
        try clear hfz34_7
        try clear hfz34_8
        try clear hfz34_9
        try clear hfz35_0
        try clear hfz35_1
        try clear hfz35_10
        try clear hfz35_2
        try clear hfz35_3
        try clear hfz35_4
        try clear hfz35_5
        try clear hfz35_6
        try clear hfz35_7
        try clear hfz35_8
        try clear hfz35_9
        try clear hfz37_0
        try clear hfz37_1
        try clear hfz37_10
        try clear hfz37_2
        try clear hfz37_3
        try clear hfz37_4
        try clear hfz37_5
        try clear hfz37_6
        try clear hfz37_7
        try clear hfz37_8
        try clear hfz37_9
        try clear hx151_0
        try clear hx151_1
        try clear hx151_2
        try clear hx151_3
        try clear hx151_4
        try clear hx151_5
        try clear hx152_0
        try clear hx152_1
        try clear hx152_2
        try clear hx152_3
        try clear hx152_4
        try clear hx152_5
        try clear p151
        try clear p152
        try clear p2
        try clear q151
        try clear q152
        obtain ⟨x6_3, rfl, HA, HK3, BK149, BK150, HB⟩ := hrel
        cases gk with
        | zero => exact absurd HA.out (by simp [compositorref07_Same.l1])
        | succ k3 =>
         have H := HA.out
         clear HA
         simp only [compositorref07_Same.l1] at H
         by_cases c38 : x6_3 < (l0_8.length : Int)
         ·rw [if_pos c38] at H
          have c38b0 : decide (x6_3 < (l0_8.length : Int)) = true := decide_eq_true c38
          clear c38
          by_cases c39 : 0 ≤ x6_3
          ·rw [if_pos c39] at H
           have c39b0 : decide (0 ≤ x6_3) = true := decide_eq_true c39
           clear c39
           by_cases c40 : x6_3 < (l1_8.length : Int)
           ·rw [if_pos c40] at H
            have c40b0 : decide (x6_3 < (l1_8.length : Int)) = true := decide_eq_true c40
            clear c40
            by_cases c41 : (!(((rd_T51 l0_8 x6_3).f0) == ((rd_T51 l1_8 x6_3).f0)) || (!(((rd_T51 l0_8 x6_3).f1) == ((rd_T51 l1_8 x6_3).f1)) || (!(((rd_T51 l0_8 x6_3).f2) == ((rd_T51 l1_8 x6_3).f2)) || (!(((rd_T51 l0_8 x6_3).f3) == ((rd_T51 l1_8 x6_3).f3)))))) = true
            ·rw [if_pos c41] at H
             have c41b0 : (!(((rd_T51 l0_8 x6_3).f0) == ((rd_T51 l1_8 x6_3).f0)) || (!(((rd_T51 l0_8 x6_3).f1) == ((rd_T51 l1_8 x6_3).f1)) || (!(((rd_T51 l0_8 x6_3).f2) == ((rd_T51 l1_8 x6_3).f2)) || (!(((rd_T51 l0_8 x6_3).f3) == ((rd_T51 l1_8 x6_3).f3)))))) = true := c41
             clear c41
             obtain rfl := Option.some.inj H
             have hnb42 := NB149_150.out
             have hnc42 := NB150_149.out
             have hcz43_0 := blk_cell BK149.out
             have hfz43_0 := blk_frozen BK149.out
             have p153 : 0 ≤ (x6_3 : Int) := odt
             have q153 : x6_3 < (l0_8.length : Int) := odt
             obtain ⟨ad153, e153, hx153_0, hx153_1, hx153_2, hx153_3⟩ := at_T51 HR0_8.out x6_3 p153 q153
             cases e153
             replace hx153_0 := (HB.out.cell (World.block_lt_of_cell? w _ hx153_0)).trans hx153_0
             replace hx153_1 := (HB.out.cell (World.block_lt_of_cell? w _ hx153_1)).trans hx153_1
             replace hx153_2 := (HB.out.cell (World.block_lt_of_cell? w _ hx153_2)).trans hx153_2
             replace hx153_3 := (HB.out.cell (World.block_lt_of_cell? w _ hx153_3)).trans hx153_3
             replace p153 := eq_true p153
             replace q153 := eq_true q153
             have hcz44_0 := blk_cell BK150.out
             have hfz44_0 := blk_frozen BK150.out
             have p154 : 0 ≤ (x6_3 : Int) := odt
             have q154 : x6_3 < (l1_8.length : Int) := odt
             obtain ⟨ad154, e154, hx154_0, hx154_1, hx154_2, hx154_3⟩ := at_T51 HR1_8.out x6_3 p154 q154
             cases e154
             replace hx154_0 := (HB.out.cell (World.block_lt_of_cell? w _ hx154_0)).trans hx154_0
             replace hx154_1 := (HB.out.cell (World.block_lt_of_cell? w _ hx154_1)).trans hx154_1
             replace hx154_2 := (HB.out.cell (World.block_lt_of_cell? w _ hx154_2)).trans hx154_2
             replace hx154_3 := (HB.out.cell (World.block_lt_of_cell? w _ hx154_3)).trans hx154_3
             replace p154 := eq_true p154
             replace q154 := eq_true q154
             go_wp2
             repeat (go_quiet (fail); try go_wp2)
             go_ret
             exact ⟨by first | rfl | (simp [errW_none, errW_some] <;> rfl) | (simp [*, errW_none, errW_some] <;> rfl), by repeat (first | (with_reducible first | exact HB.out | apply below_alloc | apply pw_below_drewN | apply below_drew1 | refine below_set ?_ GE149.out | refine below_set ?_ GE150.out) | exact HB.out)⟩
            ·rw [if_neg c41] at H
             have c41b0 : (!(((rd_T51 l0_8 x6_3).f0) == ((rd_T51 l1_8 x6_3).f0)) || (!(((rd_T51 l0_8 x6_3).f1) == ((rd_T51 l1_8 x6_3).f1)) || (!(((rd_T51 l0_8 x6_3).f2) == ((rd_T51 l1_8 x6_3).f2)) || (!(((rd_T51 l0_8 x6_3).f3) == ((rd_T51 l1_8 x6_3).f3)))))) = false := by simpa using c41
             clear c41
             have H' := Aside0.mk H
             clear H
             have hnb45 := NB149_150.out
             have hnc45 := NB150_149.out
             have hcz46_0 := blk_cell BK149.out
             have hfz46_0 := blk_frozen BK149.out
             have p153 : 0 ≤ (x6_3 : Int) := odt
             have q153 : x6_3 < (l0_8.length : Int) := odt
             obtain ⟨ad153, e153, hx153_0, hx153_1, hx153_2, hx153_3⟩ := at_T51 HR0_8.out x6_3 p153 q153
             cases e153
             replace hx153_0 := (HB.out.cell (World.block_lt_of_cell? w _ hx153_0)).trans hx153_0
             replace hx153_1 := (HB.out.cell (World.block_lt_of_cell? w _ hx153_1)).trans hx153_1
             replace hx153_2 := (HB.out.cell (World.block_lt_of_cell? w _ hx153_2)).trans hx153_2
             replace hx153_3 := (HB.out.cell (World.block_lt_of_cell? w _ hx153_3)).trans hx153_3
             replace p153 := eq_true p153
             replace q153 := eq_true q153
             have hcz47_0 := blk_cell BK150.out
             have hfz47_0 := blk_frozen BK150.out
             have p154 : 0 ≤ (x6_3 : Int) := odt
             have q154 : x6_3 < (l1_8.length : Int) := odt
             obtain ⟨ad154, e154, hx154_0, hx154_1, hx154_2, hx154_3⟩ := at_T51 HR1_8.out x6_3 p154 q154
             cases e154
             replace hx154_0 := (HB.out.cell (World.block_lt_of_cell? w _ hx154_0)).trans hx154_0
             replace hx154_1 := (HB.out.cell (World.block_lt_of_cell? w _ hx154_1)).trans hx154_1
             replace hx154_2 := (HB.out.cell (World.block_lt_of_cell? w _ hx154_2)).trans hx154_2
             replace hx154_3 := (HB.out.cell (World.block_lt_of_cell? w _ hx154_3)).trans hx154_3
             replace p154 := eq_true p154
             replace q154 := eq_true q154
             go_wp2
             repeat (go_quiet (fail); try go_wp2)
             go_roundg k3
             case measure => have := HJ2.out; have := HK2.out; have := HK3.out; omega
             case rel => exact ⟨(wrap64 (x6_3 + 1)), (by first | rfl | (simp; done) | (simp [*]; done)), H', ⟨by have := HJ2.out; have := HK2.out; have := HK3.out; omega⟩, ⟨by (with_reducible repeat (first | refine blk_drewN ?_ _ | refine blk_drew ?_ | refine blk_alloc ?_ _)); exact BK149.out⟩, ⟨by (with_reducible repeat (first | refine blk_drewN ?_ _ | refine blk_drew ?_ | refine blk_alloc ?_ _)); exact BK150.out⟩, ⟨by repeat (first | (with_reducible first | exact HB.out | apply below_alloc | apply pw_below_drewN | apply below_drew1 | refine below_set ?_ GE149.out | refine below_set ?_ GE150.out) | exact HB.out)⟩⟩
           ·rw [if_neg c40] at H
            exact absurd H (by simp)
          ·rw [if_neg c39] at H
           exact absurd H (by simp)
         ·rw [if_neg c38] at H
          have c38b0 : decide (x6_3 < (l0_8.length : Int)) = false := decide_eq_false c38
          clear c38
          replace H := Option.bind_eq_some_iff.mp H
          obtain ⟨t155, A480, H⟩ := H
          replace H : (if t155 = true then ((compositorref04_Same.f k3 l0_5 l1_5).bind fun t156 => (if t156 = true then ((compositorref04_Same.f k3 l0_6 l1_6).bind fun t157 => (if t157 = true then ((compositorref04_Same.f k3 l0_7 l1_7).bind fun t158 => (if t158 = true then ((compositorref04_Same.f k3 l0_9 l1_9).bind fun t159 => (if t159 = true then ((compositorref04_Same.f k3 l0_10 l1_10).bind fun t160 => (some t160)) else (some false))) else (some false))) else (some false))) else (some false))) else (some false)) = some r := H
          have A48 := Aside0.mk A480
          clear A480
          by_cases c49 : t155 = true
          ·subst c49
           have H1 : ((compositorref04_Same.f k3 l0_5 l1_5).bind fun t156 => (if t156 = true then ((compositorref04_Same.f k3 l0_6 l1_6).bind fun t157 => (if t157 = true then ((compositorref04_Same.f k3 l0_7 l1_7).bind fun t158 => (if t158 = true then ((compositorref04_Same.f k3 l0_9 l1_9).bind fun t159 => (if t159 = true then ((compositorref04_Same.f k3 l0_10 l1_10).bind fun t160 => (some t160)) else (some false))) else (some false))) else (some false))) else (some false))) = some r := by rw [if_pos rfl] at H; exact H
           clear H
           have H := H1
           clear H1
           replace H := Option.bind_eq_some_iff.mp H
           obtain ⟨t156, A500, H⟩ := H
           replace H : (if t156 = true then ((compositorref04_Same.f k3 l0_6 l1_6).bind fun t157 => (if t157 = true then ((compositorref04_Same.f k3 l0_7 l1_7).bind fun t158 => (if t158 = true then ((compositorref04_Same.f k3 l0_9 l1_9).bind fun t159 => (if t159 = true then ((compositorref04_Same.f k3 l0_10 l1_10).bind fun t160 => (some t160)) else (some false))) else (some false))) else (some false))) else (some false)) = some r := H
           have A50 := Aside0.mk A500
           clear A500
           by_cases c51 : t156 = true
           ·subst c51
            have H1 : ((compositorref04_Same.f k3 l0_6 l1_6).bind fun t157 => (if t157 = true then ((compositorref04_Same.f k3 l0_7 l1_7).bind fun t158 => (if t158 = true then ((compositorref04_Same.f k3 l0_9 l1_9).bind fun t159 => (if t159 = true then ((compositorref04_Same.f k3 l0_10 l1_10).bind fun t160 => (some t160)) else (some false))) else (some false))) else (some false))) = some r := by rw [if_pos rfl] at H; exact H
            clear H
            have H := H1
            clear H1
            replace H := Option.bind_eq_some_iff.mp H
            obtain ⟨t157, A520, H⟩ := H
            replace H : (if t157 = true then ((compositorref04_Same.f k3 l0_7 l1_7).bind fun t158 => (if t158 = true then ((compositorref04_Same.f k3 l0_9 l1_9).bind fun t159 => (if t159 = true then ((compositorref04_Same.f k3 l0_10 l1_10).bind fun t160 => (some t160)) else (some false))) else (some false))) else (some false)) = some r := H
            have A52 := Aside0.mk A520
            clear A520
            by_cases c53 : t157 = true
            ·subst c53
             have H1 : ((compositorref04_Same.f k3 l0_7 l1_7).bind fun t158 => (if t158 = true then ((compositorref04_Same.f k3 l0_9 l1_9).bind fun t159 => (if t159 = true then ((compositorref04_Same.f k3 l0_10 l1_10).bind fun t160 => (some t160)) else (some false))) else (some false))) = some r := by rw [if_pos rfl] at H; exact H
             clear H
             have H := H1
             clear H1
             replace H := Option.bind_eq_some_iff.mp H
             obtain ⟨t158, A540, H⟩ := H
             replace H : (if t158 = true then ((compositorref04_Same.f k3 l0_9 l1_9).bind fun t159 => (if t159 = true then ((compositorref04_Same.f k3 l0_10 l1_10).bind fun t160 => (some t160)) else (some false))) else (some false)) = some r := H
             have A54 := Aside0.mk A540
             clear A540
             by_cases c55 : t158 = true
             ·subst c55
              have H1 : ((compositorref04_Same.f k3 l0_9 l1_9).bind fun t159 => (if t159 = true then ((compositorref04_Same.f k3 l0_10 l1_10).bind fun t160 => (some t160)) else (some false))) = some r := by rw [if_pos rfl] at H; exact H
              clear H
              have H := H1
              clear H1
              replace H := Option.bind_eq_some_iff.mp H
              obtain ⟨t159, A560, H⟩ := H
              replace H : (if t159 = true then ((compositorref04_Same.f k3 l0_10 l1_10).bind fun t160 => (some t160)) else (some false)) = some r := H
              have A56 := Aside0.mk A560
              clear A560
              by_cases c57 : t159 = true
              ·subst c57
               have H1 : ((compositorref04_Same.f k3 l0_10 l1_10).bind fun t160 => (some t160)) = some r := by rw [if_pos rfl] at H; exact H
               clear H
               have H := H1
               clear H1
               replace H := Option.bind_eq_some_iff.mp H
               obtain ⟨t160, A580, H⟩ := H
               replace H : (some t160) = some r := H
               have A58 := Aside0.mk A580
               clear A580
               obtain rfl := Option.some.inj H
               have hnb59 := NB149_150.out
               have hnc59 := NB150_149.out
               have hcz60_0 := blk_cell BK149.out
               have hfz60_0 := blk_frozen BK149.out
               have hcz61_0 := blk_cell BK150.out
               have hfz61_0 := blk_frozen BK150.out
               have tk_ : True := trivial
               go_wp2_with (first | ((with_reducible refine gate_load (T := 26) rfl ?_); refine load_row_event (by first | rfl | (go_simp; done)) 26 _ rfl gb149 rfl 26 _ (0, 0) _ (by (with_reducible repeat (first | refine blk_drewN ?_ _ | refine blk_drew ?_ | refine blk_alloc ?_ _)); first | with_reducible exact BK149.out | with_reducible exact (blk_far BK149.out NB149_150.out _) | with_reducible exact (blk_far (blk_far BK149.out NB149_150.out _) NB149_150.out _) | with_reducible exact (blk_far (blk_far (blk_far BK149.out NB149_150.out _) NB149_150.out _) NB149_150.out _)) hu26 rfl (by kernel_rfl) ?_) | ((with_reducible refine gate_load (T := 26) rfl ?_); refine load_row_event (by first | rfl | (go_simp; done)) 26 _ rfl gb150 rfl 26 _ (0, 0) _ (by (with_reducible repeat (first | refine blk_drewN ?_ _ | refine blk_drew ?_ | refine blk_alloc ?_ _)); first | with_reducible exact BK150.out | with_reducible exact (blk_far BK150.out NB150_149.out _) | with_reducible exact (blk_far (blk_far BK150.out NB150_149.out _) NB150_149.out _) | with_reducible exact (blk_far (blk_far (blk_far BK150.out NB150_149.out _) NB150_149.out _) NB150_149.out _)) hu26 rfl (by kernel_rfl) ?_) | ((with_reducible refine gate_store (t := 26) rfl ?_); refine store_row_event (base := w.heap.size) rfl rfl 26 _ _ rfl (g := gb149) (by rfl) (by rfl) (by (with_reducible repeat (first | refine blk_drewN ?_ _ | refine blk_drew ?_ | refine blk_alloc ?_ _)); exact BK149.out) (by kernel_rfl) (by rfl) (by rfl) GE149.out ?_; intro ws_ hs_ hk_ hb_; have n0_ := Aside0.mk (Below.trans (by repeat (first | (with_reducible first | exact HB.out | apply below_alloc | apply pw_below_drewN | apply below_drew1) | exact HB.out)) hb_); clear HB; have HB := n0_; clear n0_; clear BK149; have BK149 := Aside0.mk hs_; clear hs_; (try (have z_ := Aside0.mk (blk_else BK150.out NB150_149.out hk_); clear BK150; have BK150 := z_; clear z_)); (try (have z_ := Aside0.mk (blk_else BK150.out NB150_149.out hk_); clear BK150; have BK150 := z_; clear z_)); (try (have z_ := Aside0.mk (blk_else BK150.out NB150_149.out hk_); clear BK150; have BK150 := z_; clear z_)); have hxs_ := blk_cell BK149.out; have hys_ := blk_frozen BK149.out; clear hk_ hb_) | ((with_reducible refine gate_store (t := 26) rfl ?_); refine store_row_event (base := w.heap.size) rfl rfl 26 _ _ rfl (g := gb150) (by rfl) (by rfl) (by (with_reducible repeat (first | refine blk_drewN ?_ _ | refine blk_drew ?_ | refine blk_alloc ?_ _)); exact BK150.out) (by kernel_rfl) (by rfl) (by rfl) GE150.out ?_; intro ws_ hs_ hk_ hb_; have n0_ := Aside0.mk (Below.trans (by repeat (first | (with_reducible first | exact HB.out | apply below_alloc | apply pw_below_drewN | apply below_drew1) | exact HB.out)) hb_); clear HB; have HB := n0_; clear n0_; clear BK150; have BK150 := Aside0.mk hs_; clear hs_; (try (have z_ := Aside0.mk (blk_else BK149.out NB149_150.out hk_); clear BK149; have BK149 := z_; clear z_)); (try (have z_ := Aside0.mk (blk_else BK149.out NB149_150.out hk_); clear BK149; have BK149 := z_; clear z_)); (try (have z_ := Aside0.mk (blk_else BK149.out NB149_150.out hk_); clear BK149; have BK149 := z_; clear z_)); have hxs_ := blk_cell BK150.out; have hys_ := blk_frozen BK150.out; clear hk_ hb_) | (go_at_call 43; clear tk_; (with_reducible refine (compositorref04_Same.calls k3 _ _ l0_4 _ _ l1_4 true _ ?side1 ?side2 ?side3 ?side4 A48.out).mono ?_); (case side1 => repeat (first | exact (Kd.C_below HR0_4.out HB.out) | (with_reducible apply Kd.C_alloc) | (with_reducible apply Kd.C_drewN) | (with_reducible apply Kd.C_drew))); (case side2 => exact HC0_4.out); (case side3 => repeat (first | exact (Kd.C_below HR1_4.out HB.out) | (with_reducible apply Kd.C_alloc) | (with_reducible apply Kd.C_drewN) | (with_reducible apply Kd.C_drew))); (case side4 => exact HC1_4.out); rintro e w' ⟨rfl, ⟨nd, rfl⟩⟩; (try first | exact ⟨rfl, _, World.drewN_drewN _ _ _⟩ | exact ⟨rfl, _, Eq.trans (World.drewN_drewN _ _ _) (congrArg (World.drewN _) (Nat.add_assoc _ _ _))⟩)))
               as_aux_lemma =>
               have tk_ : True := trivial
               go_wp2_with (first | ((with_reducible refine gate_load (T := 26) rfl ?_); refine load_row_event (by first | rfl | (go_simp; done)) 26 _ rfl gb149 rfl 26 _ (0, 0) _ (by (with_reducible repeat (first | refine blk_drewN ?_ _ | refine blk_drew ?_ | refine blk_alloc ?_ _)); first | with_reducible exact BK149.out | with_reducible exact (blk_far BK149.out NB149_150.out _) | with_reducible exact (blk_far (blk_far BK149.out NB149_150.out _) NB149_150.out _) | with_reducible exact (blk_far (blk_far (blk_far BK149.out NB149_150.out _) NB149_150.out _) NB149_150.out _)) hu26 rfl (by kernel_rfl) ?_) | ((with_reducible refine gate_load (T := 26) rfl ?_); refine load_row_event (by first | rfl | (go_simp; done)) 26 _ rfl gb150 rfl 26 _ (0, 0) _ (by (with_reducible repeat (first | refine blk_drewN ?_ _ | refine blk_drew ?_ | refine blk_alloc ?_ _)); first | with_reducible exact BK150.out | with_reducible exact (blk_far BK150.out NB150_149.out _) | with_reducible exact (blk_far (blk_far BK150.out NB150_149.out _) NB150_149.out _) | with_reducible exact (blk_far (blk_far (blk_far BK150.out NB150_149.out _) NB150_149.out _) NB150_149.out _)) hu26 rfl (by kernel_rfl) ?_) | ((with_reducible refine gate_store (t := 26) rfl ?_); refine store_row_event (base := w.heap.size) rfl rfl 26 _ _ rfl (g := gb149) (by rfl) (by rfl) (by (with_reducible repeat (first | refine blk_drewN ?_ _ | refine blk_drew ?_ | refine blk_alloc ?_ _)); exact BK149.out) (by kernel_rfl) (by rfl) (by rfl) GE149.out ?_; intro ws_ hs_ hk_ hb_; have n0_ := Aside0.mk (Below.trans (by repeat (first | (with_reducible first | exact HB.out | apply below_alloc | apply pw_below_drewN | apply below_drew1) | exact HB.out)) hb_); clear HB; have HB := n0_; clear n0_; clear BK149; have BK149 := Aside0.mk hs_; clear hs_; (try (have z_ := Aside0.mk (blk_else BK150.out NB150_149.out hk_); clear BK150; have BK150 := z_; clear z_)); (try (have z_ := Aside0.mk (blk_else BK150.out NB150_149.out hk_); clear BK150; have BK150 := z_; clear z_)); (try (have z_ := Aside0.mk (blk_else BK150.out NB150_149.out hk_); clear BK150; have BK150 := z_; clear z_)); have hxs_ := blk_cell BK149.out; have hys_ := blk_frozen BK149.out; clear hk_ hb_) | ((with_reducible refine gate_store (t := 26) rfl ?_); refine store_row_event (base := w.heap.size) rfl rfl 26 _ _ rfl (g := gb150) (by rfl) (by rfl) (by (with_reducible repeat (first | refine blk_drewN ?_ _ | refine blk_drew ?_ | refine blk_alloc ?_ _)); exact BK150.out) (by kernel_rfl) (by rfl) (by rfl) GE150.out ?_; intro ws_ hs_ hk_ hb_; have n0_ := Aside0.mk (Below.trans (by repeat (first | (with_reducible first | exact HB.out | apply below_alloc | apply pw_below_drewN | apply below_drew1) | exact HB.out)) hb_); clear HB; have HB := n0_; clear n0_; clear BK150; have BK150 := Aside0.mk hs_; clear hs_; (try (have z_ := Aside0.mk (blk_else BK149.out NB149_150.out hk_); clear BK149; have BK149 := z_; clear z_)); (try (have z_ := Aside0.mk (blk_else BK149.out NB149_150.out hk_); clear BK149; have BK149 := z_; clear z_)); (try (have z_ := Aside0.mk (blk_else BK149.out NB149_150.out hk_); clear BK149; have BK149 := z_; clear z_)); have hxs_ := blk_cell BK150.out; have hys_ := blk_frozen BK150.out; clear hk_ hb_) | (go_at_call 43; clear tk_; (with_reducible refine (compositorref04_Same.calls k3 _ _ l0_5 _ _ l1_5 true _ ?side1 ?side2 ?side3 ?side4 A50.out).mono ?_); (case side1 => repeat (first | exact (Kd.C_below HR0_5.out (by repeat (first | (with_reducible first | exact HB.out | apply below_alloc | apply pw_below_drewN | apply below_drew1 | refine below_set ?_ GE149.out | refine below_set ?_ GE150.out) | exact HB.out))) | (with_reducible apply Kd.C_alloc) | (with_reducible apply Kd.C_drewN) | (with_reducible apply Kd.C_drew))); (case side2 => exact HC0_5.out); (case side3 => repeat (first | exact (Kd.C_below HR1_5.out (by repeat (first | (with_reducible first | exact HB.out | apply below_alloc | apply pw_below_drewN | apply below_drew1 | refine below_set ?_ GE149.out | refine below_set ?_ GE150.out) | exact HB.out))) | (with_reducible apply Kd.C_alloc) | (with_reducible apply Kd.C_drewN) | (with_reducible apply Kd.C_drew))); (case side4 => exact HC1_5.out); rintro e w' ⟨rfl, ⟨nd, rfl⟩⟩; (try first | exact ⟨rfl, _, World.drewN_drewN _ _ _⟩ | exact ⟨rfl, _, Eq.trans (World.drewN_drewN _ _ _) (congrArg (World.drewN _) (Nat.add_assoc _ _ _))⟩)))
               as_aux_lemma =>
               have tk_ : True := trivial
               go_wp2_with (first | ((with_reducible refine gate_load (T := 26) rfl ?_); refine load_row_event (by first | rfl | (go_simp; done)) 26 _ rfl gb149 rfl 26 _ (0, 0) _ (by (with_reducible repeat (first | refine blk_drewN ?_ _ | refine blk_drew ?_ | refine blk_alloc ?_ _)); first | with_reducible exact BK149.out | with_reducible exact (blk_far BK149.out NB149_150.out _) | with_reducible exact (blk_far (blk_far BK149.out NB149_150.out _) NB149_150.out _) | with_reducible exact (blk_far (blk_far (blk_far BK149.out NB149_150.out _) NB149_150.out _) NB149_150.out _)) hu26 rfl (by kernel_rfl) ?_) | ((with_reducible refine gate_load (T := 26) rfl ?_); refine load_row_event (by first | rfl | (go_simp; done)) 26 _ rfl gb150 rfl 26 _ (0, 0) _ (by (with_reducible repeat (first | refine blk_drewN ?_ _ | refine blk_drew ?_ | refine blk_alloc ?_ _)); first | with_reducible exact BK150.out | with_reducible exact (blk_far BK150.out NB150_149.out _) | with_reducible exact (blk_far (blk_far BK150.out NB150_149.out _) NB150_149.out _) | with_reducible exact (blk_far (blk_far (blk_far BK150.out NB150_149.out _) NB150_149.out _) NB150_149.out _)) hu26 rfl (by kernel_rfl) ?_) | ((with_reducible refine gate_store (t := 26) rfl ?_); refine store_row_event (base := w.heap.size) rfl rfl 26 _ _ rfl (g := gb149) (by rfl) (by rfl) (by (with_reducible repeat (first | refine blk_drewN ?_ _ | refine blk_drew ?_ | refine blk_alloc ?_ _)); exact BK149.out) (by kernel_rfl) (by rfl) (by rfl) GE149.out ?_; intro ws_ hs_ hk_ hb_; have n0_ := Aside0.mk (Below.trans (by repeat (first | (with_reducible first | exact HB.out | apply below_alloc | apply pw_below_drewN | apply below_drew1) | exact HB.out)) hb_); clear HB; have HB := n0_; clear n0_; clear BK149; have BK149 := Aside0.mk hs_; clear hs_; (try (have z_ := Aside0.mk (blk_else BK150.out NB150_149.out hk_); clear BK150; have BK150 := z_; clear z_)); (try (have z_ := Aside0.mk (blk_else BK150.out NB150_149.out hk_); clear BK150; have BK150 := z_; clear z_)); (try (have z_ := Aside0.mk (blk_else BK150.out NB150_149.out hk_); clear BK150; have BK150 := z_; clear z_)); have hxs_ := blk_cell BK149.out; have hys_ := blk_frozen BK149.out; clear hk_ hb_) | ((with_reducible refine gate_store (t := 26) rfl ?_); refine store_row_event (base := w.heap.size) rfl rfl 26 _ _ rfl (g := gb150) (by rfl) (by rfl) (by (with_reducible repeat (first | refine blk_drewN ?_ _ | refine blk_drew ?_ | refine blk_alloc ?_ _)); exact BK150.out) (by kernel_rfl) (by rfl) (by rfl) GE150.out ?_; intro ws_ hs_ hk_ hb_; have n0_ := Aside0.mk (Below.trans (by repeat (first | (with_reducible first | exact HB.out | apply below_alloc | apply pw_below_drewN | apply below_drew1) | exact HB.out)) hb_); clear HB; have HB := n0_; clear n0_; clear BK150; have BK150 := Aside0.mk hs_; clear hs_; (try (have z_ := Aside0.mk (blk_else BK149.out NB149_150.out hk_); clear BK149; have BK149 := z_; clear z_)); (try (have z_ := Aside0.mk (blk_else BK149.out NB149_150.out hk_); clear BK149; have BK149 := z_; clear z_)); (try (have z_ := Aside0.mk (blk_else BK149.out NB149_150.out hk_); clear BK149; have BK149 := z_; clear z_)); have hxs_ := blk_cell BK150.out; have hys_ := blk_frozen BK150.out; clear hk_ hb_) | (go_at_call 43; clear tk_; (with_reducible refine (compositorref04_Same.calls k3 _ _ l0_6 _ _ l1_6 true _ ?side1 ?side2 ?side3 ?side4 A52.out).mono ?_); (case side1 => repeat (first | exact (Kd.C_below HR0_6.out (by repeat (first | (with_reducible first | exact HB.out | apply below_alloc | apply pw_below_drewN | apply below_drew1 | refine below_set ?_ GE149.out | refine below_set ?_ GE150.out) | exact HB.out))) | (with_reducible apply Kd.C_alloc) | (with_reducible apply Kd.C_drewN) | (with_reducible apply Kd.C_drew))); (case side2 => exact HC0_6.out); (case side3 => repeat (first | exact (Kd.C_below HR1_6.out (by repeat (first | (with_reducible first | exact HB.out | apply below_alloc | apply pw_below_drewN | apply below_drew1 | refine below_set ?_ GE149.out | refine below_set ?_ GE150.out) | exact HB.out))) | (with_reducible apply Kd.C_alloc) | (with_reducible apply Kd.C_drewN) | (with_reducible apply Kd.C_drew))); (case side4 => exact HC1_6.out); rintro e w' ⟨rfl, ⟨nd, rfl⟩⟩; (try first | exact ⟨rfl, _, World.drewN_drewN _ _ _⟩ | exact ⟨rfl, _, Eq.trans (World.drewN_drewN _ _ _) (congrArg (World.drewN _) (Nat.add_assoc _ _ _))⟩)))
               as_aux_lemma =>
               have tk_ : True := trivial
               go_wp2_with (first | ((with_reducible refine gate_load (T := 26) rfl ?_); refine load_row_event (by first | rfl | (go_simp; done)) 26 _ rfl gb149 rfl 26 _ (0, 0) _ (by (with_reducible repeat (first | refine blk_drewN ?_ _ | refine blk_drew ?_ | refine blk_alloc ?_ _)); first | with_reducible exact BK149.out | with_reducible exact (blk_far BK149.out NB149_150.out _) | with_reducible exact (blk_far (blk_far BK149.out NB149_150.out _) NB149_150.out _) | with_reducible exact (blk_far (blk_far (blk_far BK149.out NB149_150.out _) NB149_150.out _) NB149_150.out _)) hu26 rfl (by kernel_rfl) ?_) | ((with_reducible refine gate_load (T := 26) rfl ?_); refine load_row_event (by first | rfl | (go_simp; done)) 26 _ rfl gb150 rfl 26 _ (0, 0) _ (by (with_reducible repeat (first | refine blk_drewN ?_ _ | refine blk_drew ?_ | refine blk_alloc ?_ _)); first | with_reducible exact BK150.out | with_reducible exact (blk_far BK150.out NB150_149.out _) | with_reducible exact (blk_far (blk_far BK150.out NB150_149.out _) NB150_149.out _) | with_reducible exact (blk_far (blk_far (blk_far BK150.out NB150_149.out _) NB150_149.out _) NB150_149.out _)) hu26 rfl (by kernel_rfl) ?_) | ((with_reducible refine gate_store (t := 26) rfl ?_); refine store_row_event (base := w.heap.size) rfl rfl 26 _ _ rfl (g := gb149) (by rfl) (by rfl) (by (with_reducible repeat (first | refine blk_drewN ?_ _ | refine blk_drew ?_ | refine blk_alloc ?_ _)); exact BK149.out) (by kernel_rfl) (by rfl) (by rfl) GE149.out ?_; intro ws_ hs_ hk_ hb_; have n0_ := Aside0.mk (Below.trans (by repeat (first | (with_reducible first | exact HB.out | apply below_alloc | apply pw_below_drewN | apply below_drew1) | exact HB.out)) hb_); clear HB; have HB := n0_; clear n0_; clear BK149; have BK149 := Aside0.mk hs_; clear hs_; (try (have z_ := Aside0.mk (blk_else BK150.out NB150_149.out hk_); clear BK150; have BK150 := z_; clear z_)); (try (have z_ := Aside0.mk (blk_else BK150.out NB150_149.out hk_); clear BK150; have BK150 := z_; clear z_)); (try (have z_ := Aside0.mk (blk_else BK150.out NB150_149.out hk_); clear BK150; have BK150 := z_; clear z_)); have hxs_ := blk_cell BK149.out; have hys_ := blk_frozen BK149.out; clear hk_ hb_) | ((with_reducible refine gate_store (t := 26) rfl ?_); refine store_row_event (base := w.heap.size) rfl rfl 26 _ _ rfl (g := gb150) (by rfl) (by rfl) (by (with_reducible repeat (first | refine blk_drewN ?_ _ | refine blk_drew ?_ | refine blk_alloc ?_ _)); exact BK150.out) (by kernel_rfl) (by rfl) (by rfl) GE150.out ?_; intro ws_ hs_ hk_ hb_; have n0_ := Aside0.mk (Below.trans (by repeat (first | (with_reducible first | exact HB.out | apply below_alloc | apply pw_below_drewN | apply below_drew1) | exact HB.out)) hb_); clear HB; have HB := n0_; clear n0_; clear BK150; have BK150 := Aside0.mk hs_; clear hs_; (try (have z_ := Aside0.mk (blk_else BK149.out NB149_150.out hk_); clear BK149; have BK149 := z_; clear z_)); (try (have z_ := Aside0.mk (blk_else BK149.out NB149_150.out hk_); clear BK149; have BK149 := z_; clear z_)); (try (have z_ := Aside0.mk (blk_else BK149.out NB149_150.out hk_); clear BK149; have BK149 := z_; clear z_)); have hxs_ := blk_cell BK150.out; have hys_ := blk_frozen BK150.out; clear hk_ hb_) | (go_at_call 43; clear tk_; (with_reducible refine (compositorref04_Same.calls k3 _ _ l0_7 _ _ l1_7 true _ ?side1 ?side2 ?side3 ?side4 A54.out).mono ?_); (case side1 => repeat (first | exact (Kd.C_below HR0_7.out (by repeat (first | (with_reducible first | exact HB.out | apply below_alloc | apply pw_below_drewN | apply below_drew1 | refine below_set ?_ GE149.out | refine below_set ?_ GE150.out) | exact HB.out))) | (with_reducible apply Kd.C_alloc) | (with_reducible apply Kd.C_drewN) | (with_reducible apply Kd.C_drew))); (case side2 => exact HC0_7.out); (case side3 => repeat (first | exact (Kd.C_below HR1_7.out (by repeat (first | (with_reducible first | exact HB.out | apply below_alloc | apply pw_below_drewN | apply below_drew1 | refine below_set ?_ GE149.out | refine below_set ?_ GE150.out) | exact HB.out))) | (with_reducible apply Kd.C_alloc) | (with_reducible apply Kd.C_drewN) | (with_reducible apply Kd.C_drew))); (case side4 => exact HC1_7.out); rintro e w' ⟨rfl, ⟨nd, rfl⟩⟩; (try first | exact ⟨rfl, _, World.drewN_drewN _ _ _⟩ | exact ⟨rfl, _, Eq.trans (World.drewN_drewN _ _ _) (congrArg (World.drewN _) (Nat.add_assoc _ _ _))⟩)))
               as_aux_lemma =>
               have tk_ : True := trivial
               go_wp2_with (first | ((with_reducible refine gate_load (T := 26) rfl ?_); refine load_row_event (by first | rfl | (go_simp; done)) 26 _ rfl gb149 rfl 26 _ (0, 0) _ (by (with_reducible repeat (first | refine blk_drewN ?_ _ | refine blk_drew ?_ | refine blk_alloc ?_ _)); first | with_reducible exact BK149.out | with_reducible exact (blk_far BK149.out NB149_150.out _) | with_reducible exact (blk_far (blk_far BK149.out NB149_150.out _) NB149_150.out _) | with_reducible exact (blk_far (blk_far (blk_far BK149.out NB149_150.out _) NB149_150.out _) NB149_150.out _)) hu26 rfl (by kernel_rfl) ?_) | ((with_reducible refine gate_load (T := 26) rfl ?_); refine load_row_event (by first | rfl | (go_simp; done)) 26 _ rfl gb150 rfl 26 _ (0, 0) _ (by (with_reducible repeat (first | refine blk_drewN ?_ _ | refine blk_drew ?_ | refine blk_alloc ?_ _)); first | with_reducible exact BK150.out | with_reducible exact (blk_far BK150.out NB150_149.out _) | with_reducible exact (blk_far (blk_far BK150.out NB150_149.out _) NB150_149.out _) | with_reducible exact (blk_far (blk_far (blk_far BK150.out NB150_149.out _) NB150_149.out _) NB150_149.out _)) hu26 rfl (by kernel_rfl) ?_) | ((with_reducible refine gate_store (t := 26) rfl ?_); refine store_row_event (base := w.heap.size) rfl rfl 26 _ _ rfl (g := gb149) (by rfl) (by rfl) (by (with_reducible repeat (first | refine blk_drewN ?_ _ | refine blk_drew ?_ | refine blk_alloc ?_ _)); exact BK149.out) (by kernel_rfl) (by rfl) (by rfl) GE149.out ?_; intro ws_ hs_ hk_ hb_; have n0_ := Aside0.mk (Below.trans (by repeat (first | (with_reducible first | exact HB.out | apply below_alloc | apply pw_below_drewN | apply below_drew1) | exact HB.out)) hb_); clear HB; have HB := n0_; clear n0_; clear BK149; have BK149 := Aside0.mk hs_; clear hs_; (try (have z_ := Aside0.mk (blk_else BK150.out NB150_149.out hk_); clear BK150; have BK150 := z_; clear z_)); (try (have z_ := Aside0.mk (blk_else BK150.out NB150_149.out hk_); clear BK150; have BK150 := z_; clear z_)); (try (have z_ := Aside0.mk (blk_else BK150.out NB150_149.out hk_); clear BK150; have BK150 := z_; clear z_)); have hxs_ := blk_cell BK149.out; have hys_ := blk_frozen BK149.out; clear hk_ hb_) | ((with_reducible refine gate_store (t := 26) rfl ?_); refine store_row_event (base := w.heap.size) rfl rfl 26 _ _ rfl (g := gb150) (by rfl) (by rfl) (by (with_reducible repeat (first | refine blk_drewN ?_ _ | refine blk_drew ?_ | refine blk_alloc ?_ _)); exact BK150.out) (by kernel_rfl) (by rfl) (by rfl) GE150.out ?_; intro ws_ hs_ hk_ hb_; have n0_ := Aside0.mk (Below.trans (by repeat (first | (with_reducible first | exact HB.out | apply below_alloc | apply pw_below_drewN | apply below_drew1) | exact HB.out)) hb_); clear HB; have HB := n0_; clear n0_; clear BK150; have BK150 := Aside0.mk hs_; clear hs_; (try (have z_ := Aside0.mk (blk_else BK149.out NB149_150.out hk_); clear BK149; have BK149 := z_; clear z_)); (try (have z_ := Aside0.mk (blk_else BK149.out NB149_150.out hk_); clear BK149; have BK149 := z_; clear z_)); (try (have z_ := Aside0.mk (blk_else BK149.out NB149_150.out hk_); clear BK149; have BK149 := z_; clear z_)); have hxs_ := blk_cell BK150.out; have hys_ := blk_frozen BK150.out; clear hk_ hb_) | (go_at_call 43; clear tk_; (with_reducible refine (compositorref04_Same.calls k3 _ _ l0_9 _ _ l1_9 true _ ?side1 ?side2 ?side3 ?side4 A56.out).mono ?_); (case side1 => repeat (first | exact (Kd.C_below HR0_9.out (by repeat (first | (with_reducible first | exact HB.out | apply below_alloc | apply pw_below_drewN | apply below_drew1 | refine below_set ?_ GE149.out | refine below_set ?_ GE150.out) | exact HB.out))) | (with_reducible apply Kd.C_alloc) | (with_reducible apply Kd.C_drewN) | (with_reducible apply Kd.C_drew))); (case side2 => exact HC0_9.out); (case side3 => repeat (first | exact (Kd.C_below HR1_9.out (by repeat (first | (with_reducible first | exact HB.out | apply below_alloc | apply pw_below_drewN | apply below_drew1 | refine below_set ?_ GE149.out | refine below_set ?_ GE150.out) | exact HB.out))) | (with_reducible apply Kd.C_alloc) | (with_reducible apply Kd.C_drewN) | (with_reducible apply Kd.C_drew))); (case side4 => exact HC1_9.out); rintro e w' ⟨rfl, ⟨nd, rfl⟩⟩; (try first | exact ⟨rfl, _, World.drewN_drewN _ _ _⟩ | exact ⟨rfl, _, Eq.trans (World.drewN_drewN _ _ _) (congrArg (World.drewN _) (Nat.add_assoc _ _ _))⟩)))
               as_aux_lemma =>
               have tk_ : True := trivial
               go_wp2_with (first | ((with_reducible refine gate_load (T := 26) rfl ?_); refine load_row_event (by first | rfl | (go_simp; done)) 26 _ rfl gb149 rfl 26 _ (0, 0) _ (by (with_reducible repeat (first | refine blk_drewN ?_ _ | refine blk_drew ?_ | refine blk_alloc ?_ _)); first | with_reducible exact BK149.out | with_reducible exact (blk_far BK149.out NB149_150.out _) | with_reducible exact (blk_far (blk_far BK149.out NB149_150.out _) NB149_150.out _) | with_reducible exact (blk_far (blk_far (blk_far BK149.out NB149_150.out _) NB149_150.out _) NB149_150.out _)) hu26 rfl (by kernel_rfl) ?_) | ((with_reducible refine gate_load (T := 26) rfl ?_); refine load_row_event (by first | rfl | (go_simp; done)) 26 _ rfl gb150 rfl 26 _ (0, 0) _ (by (with_reducible repeat (first | refine blk_drewN ?_ _ | refine blk_drew ?_ | refine blk_alloc ?_ _)); first | with_reducible exact BK150.out | with_reducible exact (blk_far BK150.out NB150_149.out _) | with_reducible exact (blk_far (blk_far BK150.out NB150_149.out _) NB150_149.out _) | with_reducible exact (blk_far (blk_far (blk_far BK150.out NB150_149.out _) NB150_149.out _) NB150_149.out _)) hu26 rfl (by kernel_rfl) ?_) | ((with_reducible refine gate_store (t := 26) rfl ?_); refine store_row_event (base := w.heap.size) rfl rfl 26 _ _ rfl (g := gb149) (by rfl) (by rfl) (by (with_reducible repeat (first | refine blk_drewN ?_ _ | refine blk_drew ?_ | refine blk_alloc ?_ _)); exact BK149.out) (by kernel_rfl) (by rfl) (by rfl) GE149.out ?_; intro ws_ hs_ hk_ hb_; have n0_ := Aside0.mk (Below.trans (by repeat (first | (with_reducible first | exact HB.out | apply below_alloc | apply pw_below_drewN | apply below_drew1) | exact HB.out)) hb_); clear HB; have HB := n0_; clear n0_; clear BK149; have BK149 := Aside0.mk hs_; clear hs_; (try (have z_ := Aside0.mk (blk_else BK150.out NB150_149.out hk_); clear BK150; have BK150 := z_; clear z_)); (try (have z_ := Aside0.mk (blk_else BK150.out NB150_149.out hk_); clear BK150; have BK150 := z_; clear z_)); (try (have z_ := Aside0.mk (blk_else BK150.out NB150_149.out hk_); clear BK150; have BK150 := z_; clear z_)); have hxs_ := blk_cell BK149.out; have hys_ := blk_frozen BK149.out; clear hk_ hb_) | ((with_reducible refine gate_store (t := 26) rfl ?_); refine store_row_event (base := w.heap.size) rfl rfl 26 _ _ rfl (g := gb150) (by rfl) (by rfl) (by (with_reducible repeat (first | refine blk_drewN ?_ _ | refine blk_drew ?_ | refine blk_alloc ?_ _)); exact BK150.out) (by kernel_rfl) (by rfl) (by rfl) GE150.out ?_; intro ws_ hs_ hk_ hb_; have n0_ := Aside0.mk (Below.trans (by repeat (first | (with_reducible first | exact HB.out | apply below_alloc | apply pw_below_drewN | apply below_drew1) | exact HB.out)) hb_); clear HB; have HB := n0_; clear n0_; clear BK150; have BK150 := Aside0.mk hs_; clear hs_; (try (have z_ := Aside0.mk (blk_else BK149.out NB149_150.out hk_); clear BK149; have BK149 := z_; clear z_)); (try (have z_ := Aside0.mk (blk_else BK149.out NB149_150.out hk_); clear BK149; have BK149 := z_; clear z_)); (try (have z_ := Aside0.mk (blk_else BK149.out NB149_150.out hk_); clear BK149; have BK149 := z_; clear z_)); have hxs_ := blk_cell BK150.out; have hys_ := blk_frozen BK150.out; clear hk_ hb_) | (go_at_call 43; clear tk_; (with_reducible refine (compositorref04_Same.calls k3 _ _ l0_10 _ _ l1_10 t160 _ ?side1 ?side2 ?side3 ?side4 A58.out).mono ?_); (case side1 => repeat (first | exact (Kd.C_below HR0_10.out (by repeat (first | (with_reducible first | exact HB.out | apply below_alloc | apply pw_below_drewN | apply below_drew1 | refine below_set ?_ GE149.out | refine below_set ?_ GE150.out) | exact HB.out))) | (with_reducible apply Kd.C_alloc) | (with_reducible apply Kd.C_drewN) | (with_reducible apply Kd.C_drew))); (case side2 => exact HC0_10.out); (case side3 => repeat (first | exact (Kd.C_below HR1_10.out (by repeat (first | (with_reducible first | exact HB.out | apply below_alloc | apply pw_below_drewN | apply below_drew1 | refine below_set ?_ GE149.out | refine below_set ?_ GE150.out) | exact HB.out))) | (with_reducible apply Kd.C_alloc) | (with_reducible apply Kd.C_drewN) | (with_reducible apply Kd.C_drew))); (case side4 => exact HC1_10.out); rintro e w' ⟨rfl, ⟨nd, rfl⟩⟩; (try first | exact ⟨rfl, _, World.drewN_drewN _ _ _⟩ | exact ⟨rfl, _, Eq.trans (World.drewN_drewN _ _ _) (congrArg (World.drewN _) (Nat.add_assoc _ _ _))⟩)))
               repeat (go_quiet (first | (go_at_call 43; (with_reducible refine (compositorref04_Same.calls k3 _ _ l0_4 _ _ l1_4 true _ ?side1 ?side2 ?side3 ?side4 A48.out).mono ?_); (case side1 => repeat (first | exact (Kd.C_below HR0_4.out HB.out) | (with_reducible apply Kd.C_alloc) | (with_reducible apply Kd.C_drewN) | (with_reducible apply Kd.C_drew))); (case side2 => exact HC0_4.out); (case side3 => repeat (first | exact (Kd.C_below HR1_4.out HB.out) | (with_reducible apply Kd.C_alloc) | (with_reducible apply Kd.C_drewN) | (with_reducible apply Kd.C_drew))); (case side4 => exact HC1_4.out); rintro e w' ⟨rfl, ⟨nd, rfl⟩⟩; (try first | exact ⟨rfl, _, World.drewN_drewN _ _ _⟩ | exact ⟨rfl, _, Eq.trans (World.drewN_drewN _ _ _) (congrArg (World.drewN _) (Nat.add_assoc _ _ _))⟩)) | (go_at_call 43; (with_reducible refine (compositorref04_Same.calls k3 _ _ l0_5 _ _ l1_5 true _ ?side1 ?side2 ?side3 ?side4 A50.out).mono ?_); (case side1 => repeat (first | exact (Kd.C_below HR0_5.out (by repeat (first | (with_reducible first | exact HB.out | apply below_alloc | apply pw_below_drewN | apply below_drew1 | refine below_set ?_ GE149.out | refine below_set ?_ GE150.out) | exact HB.out))) | (with_reducible apply Kd.C_alloc) | (with_reducible apply Kd.C_drewN) | (with_reducible apply Kd.C_drew))); (case side2 => exact HC0_5.out); (case side3 => repeat (first | exact (Kd.C_below HR1_5.out (by repeat (first | (with_reducible first | exact HB.out | apply below_alloc | apply pw_below_drewN | apply below_drew1 | refine below_set ?_ GE149.out | refine below_set ?_ GE150.out) | exact HB.out))) | (with_reducible apply Kd.C_alloc) | (with_reducible apply Kd.C_drewN) | (with_reducible apply Kd.C_drew))); (case side4 => exact HC1_5.out); rintro e w' ⟨rfl, ⟨nd, rfl⟩⟩; (try first | exact ⟨rfl, _, World.drewN_drewN _ _ _⟩ | exact ⟨rfl, _, Eq.trans (World.drewN_drewN _ _ _) (congrArg (World.drewN _) (Nat.add_assoc _ _ _))⟩)) | (go_at_call 43; (with_reducible refine (compositorref04_Same.calls k3 _ _ l0_6 _ _ l1_6 true _ ?side1 ?side2 ?side3 ?side4 A52.out).mono ?_); (case side1 => repeat (first | exact (Kd.C_below HR0_6.out (by repeat (first | (with_reducible first | exact HB.out | apply below_alloc | apply pw_below_drewN | apply below_drew1 | refine below_set ?_ GE149.out | refine below_set ?_ GE150.out) | exact HB.out))) | (with_reducible apply Kd.C_alloc) | (with_reducible apply Kd.C_drewN) | (with_reducible apply Kd.C_drew))); (case side2 => exact HC0_6.out); (case side3 => repeat (first | exact (Kd.C_below HR1_6.out (by repeat (first | (with_reducible first | exact HB.out | apply below_alloc | apply pw_below_drewN | apply below_drew1 | refine below_set ?_ GE149.out | refine below_set ?_ GE150.out) | exact HB.out))) | (with_reducible apply Kd.C_alloc) | (with_reducible apply Kd.C_drewN) | (with_reducible apply Kd.C_drew))); (case side4 => exact HC1_6.out); rintro e w' ⟨rfl, ⟨nd, rfl⟩⟩; (try first | exact ⟨rfl, _, World.drewN_drewN _ _ _⟩ | exact ⟨rfl, _, Eq.trans (World.drewN_drewN _ _ _) (congrArg (World.drewN _) (Nat.add_assoc _ _ _))⟩)) | (go_at_call 43; (with_reducible refine (compositorref04_Same.calls k3 _ _ l0_7 _ _ l1_7 true _ ?side1 ?side2 ?side3 ?side4 A54.out).mono ?_); (case side1 => repeat (first | exact (Kd.C_below HR0_7.out (by repeat (first | (with_reducible first | exact HB.out | apply below_alloc | apply pw_below_drewN | apply below_drew1 | refine below_set ?_ GE149.out | refine below_set ?_ GE150.out) | exact HB.out))) | (with_reducible apply Kd.C_alloc) | (with_reducible apply Kd.C_drewN) | (with_reducible apply Kd.C_drew))); (case side2 => exact HC0_7.out); (case side3 => repeat (first | exact (Kd.C_below HR1_7.out (by repeat (first | (with_reducible first | exact HB.out | apply below_alloc | apply pw_below_drewN | apply below_drew1 | refine below_set ?_ GE149.out | refine below_set ?_ GE150.out) | exact HB.out))) | (with_reducible apply Kd.C_alloc) | (with_reducible apply Kd.C_drewN) | (with_reducible apply Kd.C_drew))); (case side4 => exact HC1_7.out); rintro e w' ⟨rfl, ⟨nd, rfl⟩⟩; (try first | exact ⟨rfl, _, World.drewN_drewN _ _ _⟩ | exact ⟨rfl, _, Eq.trans (World.drewN_drewN _ _ _) (congrArg (World.drewN _) (Nat.add_assoc _ _ _))⟩)) | (go_at_call 43; (with_reducible refine (compositorref04_Same.calls k3 _ _ l0_9 _ _ l1_9 true _ ?side1 ?side2 ?side3 ?side4 A56.out).mono ?_); (case side1 => repeat (first | exact (Kd.C_below HR0_9.out (by repeat (first | (with_reducible first | exact HB.out | apply below_alloc | apply pw_below_drewN | apply below_drew1 | refine below_set ?_ GE149.out | refine below_set ?_ GE150.out) | exact HB.out))) | (with_reducible apply Kd.C_alloc) | (with_reducible apply Kd.C_drewN) | (with_reducible apply Kd.C_drew))); (case side2 => exact HC0_9.out); (case side3 => repeat (first | exact (Kd.C_below HR1_9.out (by repeat (first | (with_reducible first | exact HB.out | apply below_alloc | apply pw_below_drewN | apply below_drew1 | refine below_set ?_ GE149.out | refine below_set ?_ GE150.out) | exact HB.out))) | (with_reducible apply Kd.C_alloc) | (with_reducible apply Kd.C_drewN) | (with_reducible apply Kd.C_drew))); (case side4 => exact HC1_9.out); rintro e w' ⟨rfl, ⟨nd, rfl⟩⟩; (try first | exact ⟨rfl, _, World.drewN_drewN _ _ _⟩ | exact ⟨rfl, _, Eq.trans (World.drewN_drewN _ _ _) (congrArg (World.drewN _) (Nat.add_assoc _ _ _))⟩)) | (go_at_call 43; (with_reducible refine (compositorref04_Same.calls k3 _ _ l0_10 _ _ l1_10 t160 _ ?side1 ?side2 ?side3 ?side4 A58.out).mono ?_); (case side1 => repeat (first | exact (Kd.C_below HR0_10.out (by repeat (first | (with_reducible first | exact HB.out | apply below_alloc | apply pw_below_drewN | apply below_drew1 | refine below_set ?_ GE149.out | refine below_set ?_ GE150.out) | exact HB.out))) | (with_reducible apply Kd.C_alloc) | (with_reducible apply Kd.C_drewN) | (with_reducible apply Kd.C_drew))); (case side2 => exact HC0_10.out); (case side3 => repeat (first | exact (Kd.C_below HR1_10.out (by repeat (first | (with_reducible first | exact HB.out | apply below_alloc | apply pw_below_drewN | apply below_drew1 | refine below_set ?_ GE149.out | refine below_set ?_ GE150.out) | exact HB.out))) | (with_reducible apply Kd.C_alloc) | (with_reducible apply Kd.C_drewN) | (with_reducible apply Kd.C_drew))); (case side4 => exact HC1_10.out); rintro e w' ⟨rfl, ⟨nd, rfl⟩⟩; (try first | exact ⟨rfl, _, World.drewN_drewN _ _ _⟩ | exact ⟨rfl, _, Eq.trans (World.drewN_drewN _ _ _) (congrArg (World.drewN _) (Nat.add_assoc _ _ _))⟩))); try go_wp2_with (first | ((with_reducible refine gate_load (T := 26) rfl ?_); refine load_row_event (by first | rfl | (go_simp; done)) 26 _ rfl gb149 rfl 26 _ (0, 0) _ (by (with_reducible repeat (first | refine blk_drewN ?_ _ | refine blk_drew ?_ | refine blk_alloc ?_ _)); first | with_reducible exact BK149.out | with_reducible exact (blk_far BK149.out NB149_150.out _) | with_reducible exact (blk_far (blk_far BK149.out NB149_150.out _) NB149_150.out _) | with_reducible exact (blk_far (blk_far (blk_far BK149.out NB149_150.out _) NB149_150.out _) NB149_150.out _)) hu26 rfl (by kernel_rfl) ?_) | ((with_reducible refine gate_load (T := 26) rfl ?_); refine load_row_event (by first | rfl | (go_simp; done)) 26 _ rfl gb150 rfl 26 _ (0, 0) _ (by (with_reducible repeat (first | refine blk_drewN ?_ _ | refine blk_drew ?_ | refine blk_alloc ?_ _)); first | with_reducible exact BK150.out | with_reducible exact (blk_far BK150.out NB150_149.out _) | with_reducible exact (blk_far (blk_far BK150.out NB150_149.out _) NB150_149.out _) | with_reducible exact (blk_far (blk_far (blk_far BK150.out NB150_149.out _) NB150_149.out _) NB150_149.out _)) hu26 rfl (by kernel_rfl) ?_) | ((with_reducible refine gate_store (t := 26) rfl ?_); refine store_row_event (base := w.heap.size) rfl rfl 26 _ _ rfl (g := gb149) (by rfl) (by rfl) (by (with_reducible repeat (first | refine blk_drewN ?_ _ | refine blk_drew ?_ | refine blk_alloc ?_ _)); exact BK149.out) (by kernel_rfl) (by rfl) (by rfl) GE149.out ?_; intro ws_ hs_ hk_ hb_; have n0_ := Aside0.mk (Below.trans (by repeat (first | (with_reducible first | exact HB.out | apply below_alloc | apply pw_below_drewN | apply below_drew1) | exact HB.out)) hb_); clear HB; have HB := n0_; clear n0_; clear BK149; have BK149 := Aside0.mk hs_; clear hs_; (try (have z_ := Aside0.mk (blk_else BK150.out NB150_149.out hk_); clear BK150; have BK150 := z_; clear z_)); (try (have z_ := Aside0.mk (blk_else BK150.out NB150_149.out hk_); clear BK150; have BK150 := z_; clear z_)); (try (have z_ := Aside0.mk (blk_else BK150.out NB150_149.out hk_); clear BK150; have BK150 := z_; clear z_)); have hxs_ := blk_cell BK149.out; have hys_ := blk_frozen BK149.out; clear hk_ hb_) | ((with_reducible refine gate_store (t := 26) rfl ?_); refine store_row_event (base := w.heap.size) rfl rfl 26 _ _ rfl (g := gb150) (by rfl) (by rfl) (by (with_reducible repeat (first | refine blk_drewN ?_ _ | refine blk_drew ?_ | refine blk_alloc ?_ _)); exact BK150.out) (by kernel_rfl) (by rfl) (by rfl) GE150.out ?_; intro ws_ hs_ hk_ hb_; have n0_ := Aside0.mk (Below.trans (by repeat (first | (with_reducible first | exact HB.out | apply below_alloc | apply pw_below_drewN | apply below_drew1) | exact HB.out)) hb_); clear HB; have HB := n0_; clear n0_; clear BK150; have BK150 := Aside0.mk hs_; clear hs_; (try (have z_ := Aside0.mk (blk_else BK149.out NB149_150.out hk_); clear BK149; have BK149 := z_; clear z_)); (try (have z_ := Aside0.mk (blk_else BK149.out NB149_150.out hk_); clear BK149; have BK149 := z_; clear z_)); (try (have z_ := Aside0.mk (blk_else BK149.out NB149_150.out hk_); clear BK149; have BK149 := z_; clear z_)); have hxs_ := blk_cell BK150.out; have hys_ := blk_frozen BK150.out; clear hk_ hb_) | (go_at_call 43; (with_reducible refine (compositorref04_Same.calls k3 _ _ l0_4 _ _ l1_4 true _ ?side1 ?side2 ?side3 ?side4 A48.out).mono ?_); (case side1 => repeat (first | exact (Kd.C_below HR0_4.out HB.out) | (with_reducible apply Kd.C_alloc) | (with_reducible apply Kd.C_drewN) | (with_reducible apply Kd.C_drew))); (case side2 => exact HC0_4.out); (case side3 => repeat (first | exact (Kd.C_below HR1_4.out HB.out) | (with_reducible apply Kd.C_alloc) | (with_reducible apply Kd.C_drewN) | (with_reducible apply Kd.C_drew))); (case side4 => exact HC1_4.out); rintro e w' ⟨rfl, ⟨nd, rfl⟩⟩; (try first | exact ⟨rfl, _, World.drewN_drewN _ _ _⟩ | exact ⟨rfl, _, Eq.trans (World.drewN_drewN _ _ _) (congrArg (World.drewN _) (Nat.add_assoc _ _ _))⟩)) | (go_at_call 43; (with_reducible refine (compositorref04_Same.calls k3 _ _ l0_5 _ _ l1_5 true _ ?side1 ?side2 ?side3 ?side4 A50.out).mono ?_); (case side1 => repeat (first | exact (Kd.C_below HR0_5.out (by repeat (first | (with_reducible first | exact HB.out | apply below_alloc | apply pw_below_drewN | apply below_drew1 | refine below_set ?_ GE149.out | refine below_set ?_ GE150.out) | exact HB.out))) | (with_reducible apply Kd.C_alloc) | (with_reducible apply Kd.C_drewN) | (with_reducible apply Kd.C_drew))); (case side2 => exact HC0_5.out); (case side3 => repeat (first | exact (Kd.C_below HR1_5.out (by repeat (first | (with_reducible first | exact HB.out | apply below_alloc | apply pw_below_drewN | apply below_drew1 | refine below_set ?_ GE149.out | refine below_set ?_ GE150.out) | exact HB.out))) | (with_reducible apply Kd.C_alloc) | (with_reducible apply Kd.C_drewN) | (with_reducible apply Kd.C_drew))); (case side4 => exact HC1_5.out); rintro e w' ⟨rfl, ⟨nd, rfl⟩⟩; (try first | exact ⟨rfl, _, World.drewN_drewN _ _ _⟩ | exact ⟨rfl, _, Eq.trans (World.drewN_drewN _ _ _) (congrArg (World.drewN _) (Nat.add_assoc _ _ _))⟩)) | (go_at_call 43; (with_reducible refine (compositorref04_Same.calls k3 _ _ l0_6 _ _ l1_6 true _ ?side1 ?side2 ?side3 ?side4 A52.out).mono ?_); (case side1 => repeat (first | exact (Kd.C_below HR0_6.out (by repeat (first | (with_reducible first | exact HB.out | apply below_alloc | apply pw_below_drewN | apply below_drew1 | refine below_set ?_ GE149.out | refine below_set ?_ GE150.out) | exact HB.out))) | (with_reducible apply Kd.C_alloc) | (with_reducible apply Kd.C_drewN) | (with_reducible apply Kd.C_drew))); (case side2 => exact HC0_6.out); (case side3 => repeat (first | exact (Kd.C_below HR1_6.out (by repeat (first | (with_reducible first | exact HB.out | apply below_alloc | apply pw_below_drewN | apply below_drew1 | refine below_set ?_ GE149.out | refine below_set ?_ GE150.out) | exact HB.out))) | (with_reducible apply Kd.C_alloc) | (with_reducible apply Kd.C_drewN) | (with_reducible apply Kd.C_drew))); (case side4 => exact HC1_6.out); rintro e w' ⟨rfl, ⟨nd, rfl⟩⟩; (try first | exact ⟨rfl, _, World.drewN_drewN _ _ _⟩ | exact ⟨rfl, _, Eq.trans (World.drewN_drewN _ _ _) (congrArg (World.drewN _) (Nat.add_assoc _ _ _))⟩)) | (go_at_call 43; (with_reducible refine (compositorref04_Same.calls k3 _ _ l0_7 _ _ l1_7 true _ ?side1 ?side2 ?side3 ?side4 A54.out).mono ?_); (case side1 => repeat (first | exact (Kd.C_below HR0_7.out (by repeat (first | (with_reducible first | exact HB.out | apply below_alloc | apply pw_below_drewN | apply below_drew1 | refine below_set ?_ GE149.out | refine below_set ?_ GE150.out) | exact HB.out))) | (with_reducible apply Kd.C_alloc) | (with_reducible apply Kd.C_drewN) | (with_reducible apply Kd.C_drew))); (case side2 => exact HC0_7.out); (case side3 => repeat (first | exact (Kd.C_below HR1_7.out (by repeat (first | (with_reducible first | exact HB.out | apply below_alloc | apply pw_below_drewN | apply below_drew1 | refine below_set ?_ GE149.out | refine below_set ?_ GE150.out) | exact HB.out))) | (with_reducible apply Kd.C_alloc) | (with_reducible apply Kd.C_drewN) | (with_reducible apply Kd.C_drew))); (case side4 => exact HC1_7.out); rintro e w' ⟨rfl, ⟨nd, rfl⟩⟩; (try first | exact ⟨rfl, _, World.drewN_drewN _ _ _⟩ | exact ⟨rfl, _, Eq.trans (World.drewN_drewN _ _ _) (congrArg (World.drewN _) (Nat.add_assoc _ _ _))⟩)) | (go_at_call 43; (with_reducible refine (compositorref04_Same.calls k3 _ _ l0_9 _ _ l1_9 true _ ?side1 ?side2 ?side3 ?side4 A56.out).mono ?_); (case side1 => repeat (first | exact (Kd.C_below HR0_9.out (by repeat (first | (with_reducible first | exact HB.out | apply below_alloc | apply pw_below_drewN | apply below_drew1 | refine below_set ?_ GE149.out | refine below_set ?_ GE150.out) | exact HB.out))) | (with_reducible apply Kd.C_alloc) | (with_reducible apply Kd.C_drewN) | (with_reducible apply Kd.C_drew))); (case side2 => exact HC0_9.out); (case side3 => repeat (first | exact (Kd.C_below HR1_9.out (by repeat (first | (with_reducible first | exact HB.out | apply below_alloc | apply pw_below_drewN | apply below_drew1 | refine below_set ?_ GE149.out | refine below_set ?_ GE150.out) | exact HB.out))) | (with_reducible apply Kd.C_alloc) | (with_reducible apply Kd.C_drewN) | (with_reducible apply Kd.C_drew))); (case side4 => exact HC1_9.out); rintro e w' ⟨rfl, ⟨nd, rfl⟩⟩; (try first | exact ⟨rfl, _, World.drewN_drewN _ _ _⟩ | exact ⟨rfl, _, Eq.trans (World.drewN_drewN _ _ _) (congrArg (World.drewN _) (Nat.add_assoc _ _ _))⟩)) | (go_at_call 43; (with_reducible refine (compositorref04_Same.calls k3 _ _ l0_10 _ _ l1_10 t160 _ ?side1 ?side2 ?side3 ?side4 A58.out).mono ?_); (case side1 => repeat (first | exact (Kd.C_below HR0_10.out (by repeat (first | (with_reducible first | exact HB.out | apply below_alloc | apply pw_below_drewN | apply below_drew1 | refine below_set ?_ GE149.out | refine below_set ?_ GE150.out) | exact HB.out))) | (with_reducible apply Kd.C_alloc) | (with_reducible apply Kd.C_drewN) | (with_reducible apply Kd.C_drew))); (case side2 => exact HC0_10.out); (case side3 => repeat (first | exact (Kd.C_below HR1_10.out (by repeat (first | (with_reducible first | exact HB.out | apply below_alloc | apply pw_below_drewN | apply below_drew1 | refine below_set ?_ GE149.out | refine below_set ?_ GE150.out) | exact HB.out))) | (with_reducible apply Kd.C_alloc) | (with_reducible apply Kd.C_drewN) | (with_reducible apply Kd.C_drew))); (case side4 => exact HC1_10.out); rintro e w' ⟨rfl, ⟨nd, rfl⟩⟩; (try first | exact ⟨rfl, _, World.drewN_drewN _ _ _⟩ | exact ⟨rfl, _, Eq.trans (World.drewN_drewN _ _ _) (congrArg (World.drewN _) (Nat.add_assoc _ _ _))⟩))))
               go_ret
               exact ⟨by first | rfl | (simp [errW_none, errW_some] <;> rfl) | (simp [*, errW_none, errW_some] <;> rfl), by repeat (first | (with_reducible first | exact HB.out | apply below_alloc | apply pw_below_drewN | apply below_drew1 | refine below_set ?_ GE149.out | refine below_set ?_ GE150.out) | exact HB.out)⟩
              ·replace c57 := Bool.eq_false_iff.mpr c57
               subst c57
               have H1 : (some false) = some r := by rw [if_neg (show ¬ (false = true) by decide)] at H; exact H
               clear H
               have H := H1
               clear H1
               obtain rfl := Option.some.inj H
               have hnb62 := NB149_150.out
               have hnc62 := NB150_149.out
               have hcz63_0 := blk_cell BK149.out
               have hfz63_0 := blk_frozen BK149.out
               have hcz64_0 := blk_cell BK150.out
               have hfz64_0 := blk_frozen BK150.out
               have tk_ : True := trivial
               go_wp2_with (first | ((with_reducible refine gate_load (T := 26) rfl ?_); refine load_row_event (by first | rfl | (go_simp; done)) 26 _ rfl gb149 rfl 26 _ (0, 0) _ (by (with_reducible repeat (first | refine blk_drewN ?_ _ | refine blk_drew ?_ | refine blk_alloc ?_ _)); first | with_reducible exact BK149.out | with_reducible exact (blk_far BK149.out NB149_150.out _) | with_reducible exact (blk_far (blk_far BK149.out NB149_150.out _) NB149_150.out _) | with_reducible exact (blk_far (blk_far (blk_far BK149.out NB149_150.out _) NB149_150.out _) NB149_150.out _)) hu26 rfl (by kernel_rfl) ?_) | ((with_reducible refine gate_load (T := 26) rfl ?_); refine load_row_event (by first | rfl | (go_simp; done)) 26 _ rfl gb150 rfl 26 _ (0, 0) _ (by (with_reducible repeat (first | refine blk_drewN ?_ _ | refine blk_drew ?_ | refine blk_alloc ?_ _)); first | with_reducible exact BK150.out | with_reducible exact (blk_far BK150.out NB150_149.out _) | with_reducible exact (blk_far (blk_far BK150.out NB150_149.out _) NB150_149.out _) | with_reducible exact (blk_far (blk_far (blk_far BK150.out NB150_149.out _) NB150_149.out _) NB150_149.out _)) hu26 rfl (by kernel_rfl) ?_) | ((with_reducible refine gate_store (t := 26) rfl ?_); refine store_row_event (base := w.heap.size) rfl rfl 26 _ _ rfl (g := gb149) (by rfl) (by rfl) (by (with_reducible repeat (first | refine blk_drewN ?_ _ | refine blk_drew ?_ | refine blk_alloc ?_ _)); exact BK149.out) (by kernel_rfl) (by rfl) (by rfl) GE149.out ?_; intro ws_ hs_ hk_ hb_; have n0_ := Aside0.mk (Below.trans (by repeat (first | (with_reducible first | exact HB.out | apply below_alloc | apply pw_below_drewN | apply below_drew1) | exact HB.out)) hb_); clear HB; have HB := n0_; clear n0_; clear BK149; have BK149 := Aside0.mk hs_; clear hs_; (try (have z_ := Aside0.mk (blk_else BK150.out NB150_149.out hk_); clear BK150; have BK150 := z_; clear z_)); (try (have z_ := Aside0.mk (blk_else BK150.out NB150_149.out hk_); clear BK150; have BK150 := z_; clear z_)); (try (have z_ := Aside0.mk (blk_else BK150.out NB150_149.out hk_); clear BK150; have BK150 := z_; clear z_)); have hxs_ := blk_cell BK149.out; have hys_ := blk_frozen BK149.out; clear hk_ hb_) | ((with_reducible refine gate_store (t := 26) rfl ?_); refine store_row_event (base := w.heap.size) rfl rfl 26 _ _ rfl (g := gb150) (by rfl) (by rfl) (by (with_reducible repeat (first | refine blk_drewN ?_ _ | refine blk_drew ?_ | refine blk_alloc ?_ _)); exact BK150.out) (by kernel_rfl) (by rfl) (by rfl) GE150.out ?_; intro ws_ hs_ hk_ hb_; have n0_ := Aside0.mk (Below.trans (by repeat (first | (with_reducible first | exact HB.out | apply below_alloc | apply pw_below_drewN | apply below_drew1) | exact HB.out)) hb_); clear HB; have HB := n0_; clear n0_; clear BK150; have BK150 := Aside0.mk hs_; clear hs_; (try (have z_ := Aside0.mk (blk_else BK149.out NB149_150.out hk_); clear BK149; have BK149 := z_; clear z_)); (try (have z_ := Aside0.mk (blk_else BK149.out NB149_150.out hk_); clear BK149; have BK149 := z_; clear z_)); (try (have z_ := Aside0.mk (blk_else BK149.out NB149_150.out hk_); clear BK149; have BK149 := z_; clear z_)); have hxs_ := blk_cell BK150.out; have hys_ := blk_frozen BK150.out; clear hk_ hb_) | (go_at_call 43; clear tk_; (with_reducible refine (compositorref04_Same.calls k3 _ _ l0_4 _ _ l1_4 true _ ?side1 ?side2 ?side3 ?side4 A48.out).mono ?_); (case side1 => repeat (first | exact (Kd.C_below HR0_4.out HB.out) | (with_reducible apply Kd.C_alloc) | (with_reducible apply Kd.C_drewN) | (with_reducible apply Kd.C_drew))); (case side2 => exact HC0_4.out); (case side3 => repeat (first | exact (Kd.C_below HR1_4.out HB.out) | (with_reducible apply Kd.C_alloc) | (with_reducible apply Kd.C_drewN) | (with_reducible apply Kd.C_drew))); (case side4 => exact HC1_4.out); rintro e w' ⟨rfl, ⟨nd, rfl⟩⟩; (try first | exact ⟨rfl, _, World.drewN_drewN _ _ _⟩ | exact ⟨rfl, _, Eq.trans (World.drewN_drewN _ _ _) (congrArg (World.drewN _) (Nat.add_assoc _ _ _))⟩)))
               as_aux_lemma =>
               have tk_ : True := trivial
               go_wp2_with (first | ((with_reducible refine gate_load (T := 26) rfl ?_); refine load_row_event (by first | rfl | (go_simp; done)) 26 _ rfl gb149 rfl 26 _ (0, 0) _ (by (with_reducible repeat (first | refine blk_drewN ?_ _ | refine blk_drew ?_ | refine blk_alloc ?_ _)); first | with_reducible exact BK149.out | with_reducible exact (blk_far BK149.out NB149_150.out _) | with_reducible exact (blk_far (blk_far BK149.out NB149_150.out _) NB149_150.out _) | with_reducible exact (blk_far (blk_far (blk_far BK149.out NB149_150.out _) NB149_150.out _) NB149_150.out _)) hu26 rfl (by kernel_rfl) ?_) | ((with_reducible refine gate_load (T := 26) rfl ?_); refine load_row_event (by first | rfl | (go_simp; done)) 26 _ rfl gb150 rfl 26 _ (0, 0) _ (by (with_reducible repeat (first | refine blk_drewN ?_ _ | refine blk_drew ?_ | refine blk_alloc ?_ _)); first | with_reducible exact BK150.out | with_reducible exact (blk_far BK150.out NB150_149.out _) | with_reducible exact (blk_far (blk_far BK150.out NB150_149.out _) NB150_149.out _) | with_reducible exact (blk_far (blk_far (blk_far BK150.out NB150_149.out _) NB150_149.out _) NB150_149.out _)) hu26 rfl (by kernel_rfl) ?_) | ((with_reducible refine gate_store (t := 26) rfl ?_); refine store_row_event (base := w.heap.size) rfl rfl 26 _ _ rfl (g := gb149) (by rfl) (by rfl) (by (with_reducible repeat (first | refine blk_drewN ?_ _ | refine blk_drew ?_ | refine blk_alloc ?_ _)); exact BK149.out) (by kernel_rfl) (by rfl) (by rfl) GE149.out ?_; intro ws_ hs_ hk_ hb_; have n0_ := Aside0.mk (Below.trans (by repeat (first | (with_reducible first | exact HB.out | apply below_alloc | apply pw_below_drewN | apply below_drew1) | exact HB.out)) hb_); clear HB; have HB := n0_; clear n0_; clear BK149; have BK149 := Aside0.mk hs_; clear hs_; (try (have z_ := Aside0.mk (blk_else BK150.out NB150_149.out hk_); clear BK150; have BK150 := z_; clear z_)); (try (have z_ := Aside0.mk (blk_else BK150.out NB150_149.out hk_); clear BK150; have BK150 := z_; clear z_)); (try (have z_ := Aside0.mk (blk_else BK150.out NB150_149.out hk_); clear BK150; have BK150 := z_; clear z_)); have hxs_ := blk_cell BK149.out; have hys_ := blk_frozen BK149.out; clear hk_ hb_) | ((with_reducible refine gate_store (t := 26) rfl ?_); refine store_row_event (base := w.heap.size) rfl rfl 26 _ _ rfl (g := gb150) (by rfl) (by rfl) (by (with_reducible repeat (first | refine blk_drewN ?_ _ | refine blk_drew ?_ | refine blk_alloc ?_ _)); exact BK150.out) (by kernel_rfl) (by rfl) (by rfl) GE150.out ?_; intro ws_ hs_ hk_ hb_; have n0_ := Aside0.mk (Below.trans (by repeat (first | (with_reducible first | exact HB.out | apply below_alloc | apply pw_below_drewN | apply below_drew1) | exact HB.out)) hb_); clear HB; have HB := n0_; clear n0_; clear BK150; have BK150 := Aside0.mk hs_; clear hs_; (try (have z_ := Aside0.mk (blk_else BK149.out NB149_150.out hk_); clear BK149; have BK149 := z_; clear z_)); (try (have z_ := Aside0.mk (blk_else BK149.out NB149_150.out hk_); clear BK149; have BK149 := z_; clear z_)); (try (have z_ := Aside0.mk (blk_else BK149.out NB149_150.out hk_); clear BK149; have BK149 := z_; clear z_)); have hxs_ := blk_cell BK150.out; have hys_ := blk_frozen BK150.out; clear hk_ hb_) | (go_at_call 43; clear tk_; (with_reducible refine (compositorref04_Same.calls k3 _ _ l0_5 _ _ l1_5 true _ ?side1 ?side2 ?side3 ?side4 A50.out).mono ?_); (case side1 => repeat (first | exact (Kd.C_below HR0_5.out (by repeat (first | (with_reducible first | exact HB.out | apply below_alloc | apply pw_below_drewN | apply below_drew1 | refine below_set ?_ GE149.out | refine below_set ?_ GE150.out) | exact HB.out))) | (with_reducible apply Kd.C_alloc) | (with_reducible apply Kd.C_drewN) | (with_reducible apply Kd.C_drew))); (case side2 => exact HC0_5.out); (case side3 => repeat (first | exact (Kd.C_below HR1_5.out (by repeat (first | (with_reducible first | exact HB.out | apply below_alloc | apply pw_below_drewN | apply below_drew1 | refine below_set ?_ GE149.out | refine below_set ?_ GE150.out) | exact HB.out))) | (with_reducible apply Kd.C_alloc) | (with_reducible apply Kd.C_drewN) | (with_reducible apply Kd.C_drew))); (case side4 => exact HC1_5.out); rintro e w' ⟨rfl, ⟨nd, rfl⟩⟩; (try first | exact ⟨rfl, _, World.drewN_drewN _ _ _⟩ | exact ⟨rfl, _, Eq.trans (World.drewN_drewN _ _ _) (congrArg (World.drewN _) (Nat.add_assoc _ _ _))⟩)))
               as_aux_lemma =>
               have tk_ : True := trivial
               go_wp2_with (first | ((with_reducible refine gate_load (T := 26) rfl ?_); refine load_row_event (by first | rfl | (go_simp; done)) 26 _ rfl gb149 rfl 26 _ (0, 0) _ (by (with_reducible repeat (first | refine blk_drewN ?_ _ | refine blk_drew ?_ | refine blk_alloc ?_ _)); first | with_reducible exact BK149.out | with_reducible exact (blk_far BK149.out NB149_150.out _) | with_reducible exact (blk_far (blk_far BK149.out NB149_150.out _) NB149_150.out _) | with_reducible exact (blk_far (blk_far (blk_far BK149.out NB149_150.out _) NB149_150.out _) NB149_150.out _)) hu26 rfl (by kernel_rfl) ?_) | ((with_reducible refine gate_load (T := 26) rfl ?_); refine load_row_event (by first | rfl | (go_simp; done)) 26 _ rfl gb150 rfl 26 _ (0, 0) _ (by (with_reducible repeat (first | refine blk_drewN ?_ _ | refine blk_drew ?_ | refine blk_alloc ?_ _)); first | with_reducible exact BK150.out | with_reducible exact (blk_far BK150.out NB150_149.out _) | with_reducible exact (blk_far (blk_far BK150.out NB150_149.out _) NB150_149.out _) | with_reducible exact (blk_far (blk_far (blk_far BK150.out NB150_149.out _) NB150_149.out _) NB150_149.out _)) hu26 rfl (by kernel_rfl) ?_) | ((with_reducible refine gate_store (t := 26) rfl ?_); refine store_row_event (base := w.heap.size) rfl rfl 26 _ _ rfl (g := gb149) (by rfl) (by rfl) (by (with_reducible repeat (first | refine blk_drewN ?_ _ | refine blk_drew ?_ | refine blk_alloc ?_ _)); exact BK149.out) (by kernel_rfl) (by rfl) (by rfl) GE149.out ?_; intro ws_ hs_ hk_ hb_; have n0_ := Aside0.mk (Below.trans (by repeat (first | (with_reducible first | exact HB.out | apply below_alloc | apply pw_below_drewN | apply below_drew1) | exact HB.out)) hb_); clear HB; have HB := n0_; clear n0_; clear BK149; have BK149 := Aside0.mk hs_; clear hs_; (try (have z_ := Aside0.mk (blk_else BK150.out NB150_149.out hk_); clear BK150; have BK150 := z_; clear z_)); (try (have z_ := Aside0.mk (blk_else BK150.out NB150_149.out hk_); clear BK150; have BK150 := z_; clear z_)); (try (have z_ := Aside0.mk (blk_else BK150.out NB150_149.out hk_); clear BK150; have BK150 := z_; clear z_)); have hxs_ := blk_cell BK149.out; have hys_ := blk_frozen BK149.out; clear hk_ hb_) | ((with_reducible refine gate_store (t := 26) rfl ?_); refine store_row_event (base := w.heap.size) rfl rfl 26 _ _ rfl (g := gb150) (by rfl) (by rfl) (by (with_reducible repeat (first | refine blk_drewN ?_ _ | refine blk_drew ?_ | refine blk_alloc ?_ _)); exact BK150.out) (by kernel_rfl) (by rfl) (by rfl) GE150.out ?_; intro ws_ hs_ hk_ hb_; have n0_ := Aside0.mk (Below.trans (by repeat (first | (with_reducible first | exact HB.out | apply below_alloc | apply pw_below_drewN | apply below_drew1) | exact HB.out)) hb_); clear HB; have HB := n0_; clear n0_; clear BK150; have BK150 := Aside0.mk hs_; clear hs_; (try (have z_ := Aside0.mk (blk_else BK149.out NB149_150.out hk_); clear BK149; have BK149 := z_; clear z_)); (try (have z_ := Aside0.mk (blk_else BK149.out NB149_150.out hk_); clear BK149; have BK149 := z_; clear z_)); (try (have z_ := Aside0.mk (blk_else BK149.out NB149_150.out hk_); clear BK149; have BK149 := z_; clear z_)); have hxs_ := blk_cell BK150.out; have hys_ := blk_frozen BK150.out; clear hk_ hb_) | (go_at_call 43; clear tk_; (with_reducible refine (compositorref04_Same.calls k3 _ _ l0_6 _ _ l1_6 true _ ?side1 ?side2 ?side3 ?side4 A52.out).mono ?_); (case side1 => repeat (first | exact (Kd.C_below HR0_6.out (by repeat (first | (with_reducible first | exact HB.out | apply below_alloc | apply pw_below_drewN | apply below_drew1 | refine below_set ?_ GE149.out | refine below_set ?_ GE150.out) | exact HB.out))) | (with_reducible apply Kd.C_alloc) | (with_reducible apply Kd.C_drewN) | (with_reducible apply Kd.C_drew))); (case side2 => exact HC0_6.out); (case side3 => repeat (first | exact (Kd.C_below HR1_6.out (by repeat (first | (with_reducible first | exact HB.out | apply below_alloc | apply pw_below_drewN | apply below_drew1 | refine below_set ?_ GE149.out | refine below_set ?_ GE150.out) | exact HB.out))) | (with_reducible apply Kd.C_alloc) | (with_reducible apply Kd.C_drewN) | (with_reducible apply Kd.C_drew))); (case side4 => exact HC1_6.out); rintro e w' ⟨rfl, ⟨nd, rfl⟩⟩; (try first | exact ⟨rfl, _, World.drewN_drewN _ _ _⟩ | exact ⟨rfl, _, Eq.trans (World.drewN_drewN _ _ _) (congrArg (World.drewN _) (Nat.add_assoc _ _ _))⟩)))
               as_aux_lemma =>
               have tk_ : True := trivial
               go_wp2_with (first | ((with_reducible refine gate_load (T := 26) rfl ?_); refine load_row_event (by first | rfl | (go_simp; done)) 26 _ rfl gb149 rfl 26 _ (0, 0) _ (by (with_reducible repeat (first | refine blk_drewN ?_ _ | refine blk_drew ?_ | refine blk_alloc ?_ _)); first | with_reducible exact BK149.out | with_reducible exact (blk_far BK149.out NB149_150.out _) | with_reducible exact (blk_far (blk_far BK149.out NB149_150.out _) NB149_150.out _) | with_reducible exact (blk_far (blk_far (blk_far BK149.out NB149_150.out _) NB149_150.out _) NB149_150.out _)) hu26 rfl (by kernel_rfl) ?_) | ((with_reducible refine gate_load (T := 26) rfl ?_); refine load_row_event (by first | rfl | (go_simp; done)) 26 _ rfl gb150 rfl 26 _ (0, 0) _ (by (with_reducible repeat (first | refine blk_drewN ?_ _ | refine blk_drew ?_ | refine blk_alloc ?_ _)); first | with_reducible exact BK150.out | with_reducible exact (blk_far BK150.out NB150_149.out _) | with_reducible exact (blk_far (blk_far BK150.out NB150_149.out _) NB150_149.out _) | with_reducible exact (blk_far (blk_far (blk_far BK150.out NB150_149.out _) NB150_149.out _) NB150_149.out _)) hu26 rfl (by kernel_rfl) ?_) | ((with_reducible refine gate_store (t := 26) rfl ?_); refine store_row_event (base := w.heap.size) rfl rfl 26 _ _ rfl (g := gb149) (by rfl) (by rfl) (by (with_reducible repeat (first | refine blk_drewN ?_ _ | refine blk_drew ?_ | refine blk_alloc ?_ _)); exact BK149.out) (by kernel_rfl) (by rfl) (by rfl) GE149.out ?_; intro ws_ hs_ hk_ hb_; have n0_ := Aside0.mk (Below.trans (by repeat (first | (with_reducible first | exact HB.out | apply below_alloc | apply pw_below_drewN | apply below_drew1) | exact HB.out)) hb_); clear HB; have HB := n0_; clear n0_; clear BK149; have BK149 := Aside0.mk hs_; clear hs_; (try (have z_ := Aside0.mk (blk_else BK150.out NB150_149.out hk_); clear BK150; have BK150 := z_; clear z_)); (try (have z_ := Aside0.mk (blk_else BK150.out NB150_149.out hk_); clear BK150; have BK150 := z_; clear z_)); (try (have z_ := Aside0.mk (blk_else BK150.out NB150_149.out hk_); clear BK150; have BK150 := z_; clear z_)); have hxs_ := blk_cell BK149.out; have hys_ := blk_frozen BK149.out; clear hk_ hb_) | ((with_reducible refine gate_store (t := 26) rfl ?_); refine store_row_event (base := w.heap.size) rfl rfl 26 _ _ rfl (g := gb150) (by rfl) (by rfl) (by (with_reducible repeat (first | refine blk_drewN ?_ _ | refine blk_drew ?_ | refine blk_alloc ?_ _)); exact BK150.out) (by kernel_rfl) (by rfl) (by rfl) GE150.out ?_; intro ws_ hs_ hk_ hb_; have n0_ := Aside0.mk (Below.trans (by repeat (first | (with_reducible first | exact HB.out | apply below_alloc | apply pw_below_drewN | apply below_drew1) | exact HB.out)) hb_); clear HB; have HB := n0_; clear n0_; clear BK150; have BK150 := Aside0.mk hs_; clear hs_; (try (have z_ := Aside0.mk (blk_else BK149.out NB149_150.out hk_); clear BK149; have BK149 := z_; clear z_)); (try (have z_ := Aside0.mk (blk_else BK149.out NB149_150.out hk_); clear BK149; have BK149 := z_; clear z_)); (try (have z_ := Aside0.mk (blk_else BK149.out NB149_150.out hk_); clear BK149; have BK149 := z_; clear z_)); have hxs_ := blk_cell BK150.out; have hys_ := blk_frozen BK150.out; clear hk_ hb_) | (go_at_call 43; clear tk_; (with_reducible refine (compositorref04_Same.calls k3 _ _ l0_7 _ _ l1_7 true _ ?side1 ?side2 ?side3 ?side4 A54.out).mono ?_); (case side1 => repeat (first | exact (Kd.C_below HR0_7.out (by repeat (first | (with_reducible first | exact HB.out | apply below_alloc | apply pw_below_drewN | apply below_drew1 | refine below_set ?_ GE149.out | refine below_set ?_ GE150.out) | exact HB.out))) | (with_reducible apply Kd.C_alloc) | (with_reducible apply Kd.C_drewN) | (with_reducible apply Kd.C_drew))); (case side2 => exact HC0_7.out); (case side3 => repeat (first | exact (Kd.C_below HR1_7.out (by repeat (first | (with_reducible first | exact HB.out | apply below_alloc | apply pw_below_drewN | apply below_drew1 | refine below_set ?_ GE149.out | refine below_set ?_ GE150.out) | exact HB.out))) | (with_reducible apply Kd.C_alloc) | (with_reducible apply Kd.C_drewN) | (with_reducible apply Kd.C_drew))); (case side4 => exact HC1_7.out); rintro e w' ⟨rfl, ⟨nd, rfl⟩⟩; (try first | exact ⟨rfl, _, World.drewN_drewN _ _ _⟩ | exact ⟨rfl, _, Eq.trans (World.drewN_drewN _ _ _) (congrArg (World.drewN _) (Nat.add_assoc _ _ _))⟩)))
               as_aux_lemma =>
               have tk_ : True := trivial
               go_wp2_with (first | ((with_reducible refine gate_load (T := 26) rfl ?_); refine load_row_event (by first | rfl | (go_simp; done)) 26 _ rfl gb149 rfl 26 _ (0, 0) _ (by (with_reducible repeat (first | refine blk_drewN ?_ _ | refine blk_drew ?_ | refine blk_alloc ?_ _)); first | with_reducible exact BK149.out | with_reducible exact (blk_far BK149.out NB149_150.out _) | with_reducible exact (blk_far (blk_far BK149.out NB149_150.out _) NB149_150.out _) | with_reducible exact (blk_far (blk_far (blk_far BK149.out NB149_150.out _) NB149_150.out _) NB149_150.out _)) hu26 rfl (by kernel_rfl) ?_) | ((with_reducible refine gate_load (T := 26) rfl ?_); refine load_row_event (by first | rfl | (go_simp; done)) 26 _ rfl gb150 rfl 26 _ (0, 0) _ (by (with_reducible repeat (first | refine blk_drewN ?_ _ | refine blk_drew ?_ | refine blk_alloc ?_ _)); first | with_reducible exact BK150.out | with_reducible exact (blk_far BK150.out NB150_149.out _) | with_reducible exact (blk_far (blk_far BK150.out NB150_149.out _) NB150_149.out _) | with_reducible exact (blk_far (blk_far (blk_far BK150.out NB150_149.out _) NB150_149.out _) NB150_149.out _)) hu26 rfl (by kernel_rfl) ?_) | ((with_reducible refine gate_store (t := 26) rfl ?_); refine store_row_event (base := w.heap.size) rfl rfl 26 _ _ rfl (g := gb149) (by rfl) (by rfl) (by (with_reducible repeat (first | refine blk_drewN ?_ _ | refine blk_drew ?_ | refine blk_alloc ?_ _)); exact BK149.out) (by kernel_rfl) (by rfl) (by rfl) GE149.out ?_; intro ws_ hs_ hk_ hb_; have n0_ := Aside0.mk (Below.trans (by repeat (first | (with_reducible first | exact HB.out | apply below_alloc | apply pw_below_drewN | apply below_drew1) | exact HB.out)) hb_); clear HB; have HB := n0_; clear n0_; clear BK149; have BK149 := Aside0.mk hs_; clear hs_; (try (have z_ := Aside0.mk (blk_else BK150.out NB150_149.out hk_); clear BK150; have BK150 := z_; clear z_)); (try (have z_ := Aside0.mk (blk_else BK150.out NB150_149.out hk_); clear BK150; have BK150 := z_; clear z_)); (try (have z_ := Aside0.mk (blk_else BK150.out NB150_149.out hk_); clear BK150; have BK150 := z_; clear z_)); have hxs_ := blk_cell BK149.out; have hys_ := blk_frozen BK149.out; clear hk_ hb_) | ((with_reducible refine gate_store (t := 26) rfl ?_); refine store_row_event (base := w.heap.size) rfl rfl 26 _ _ rfl (g := gb150) (by rfl) (by rfl) (by (with_reducible repeat (first | refine blk_drewN ?_ _ | refine blk_drew ?_ | refine blk_alloc ?_ _)); exact BK150.out) (by kernel_rfl) (by rfl) (by rfl) GE150.out ?_; intro ws_ hs_ hk_ hb_; have n0_ := Aside0.mk (Below.trans (by repeat (first | (with_reducible first | exact HB.out | apply below_alloc | apply pw_below_drewN | apply below_drew1) | exact HB.out)) hb_); clear HB; have HB := n0_; clear n0_; clear BK150; have BK150 := Aside0.mk hs_; clear hs_; (try (have z_ := Aside0.mk (blk_else BK149.out NB149_150.out hk_); clear BK149; have BK149 := z_; clear z_)); (try (have z_ := Aside0.mk (blk_else BK149.out NB149_150.out hk_); clear BK149; have BK149 := z_; clear z_)); (try (have z_ := Aside0.mk (blk_else BK149.out NB149_150.out hk_); clear BK149; have BK149 := z_; clear z_)); have hxs_ := blk_cell BK150.out; have hys_ := blk_frozen BK150.out; clear hk_ hb_) | (go_at_call 43; clear tk_; (with_reducible refine (compositorref04_Same.calls k3 _ _ l0_9 _ _ l1_9 false _ ?side1 ?side2 ?side3 ?side4 A56.out).mono ?_); (case side1 => repeat (first | exact (Kd.C_below HR0_9.out (by repeat (first | (with_reducible first | exact HB.out | apply below_alloc | apply pw_below_drewN | apply below_drew1 | refine below_set ?_ GE149.out | refine below_set ?_ GE150.out) | exact HB.out))) | (with_reducible apply Kd.C_alloc) | (with_reducible apply Kd.C_drewN) | (with_reducible apply Kd.C_drew))); (case side2 => exact HC0_9.out); (case side3 => repeat (first | exact (Kd.C_below HR1_9.out (by repeat (first | (with_reducible first | exact HB.out | apply below_alloc | apply pw_below_drewN | apply below_drew1 | refine below_set ?_ GE149.out | refine below_set ?_ GE150.out) | exact HB.out))) | (with_reducible apply Kd.C_alloc) | (with_reducible apply Kd.C_drewN) | (with_reducible apply Kd.C_drew))); (case side4 => exact HC1_9.out); rintro e w' ⟨rfl, ⟨nd, rfl⟩⟩; (try first | exact ⟨rfl, _, World.drewN_drewN _ _ _⟩ | exact ⟨rfl, _, Eq.trans (World.drewN_drewN _ _ _) (congrArg (World.drewN _) (Nat.add_assoc _ _ _))⟩)))
               repeat (go_quiet (first | (go_at_call 43; (with_reducible refine (compositorref04_Same.calls k3 _ _ l0_4 _ _ l1_4 true _ ?side1 ?side2 ?side3 ?side4 A48.out).mono ?_); (case side1 => repeat (first | exact (Kd.C_below HR0_4.out HB.out) | (with_reducible apply Kd.C_alloc) | (with_reducible apply Kd.C_drewN) | (with_reducible apply Kd.C_drew))); (case side2 => exact HC0_4.out); (case side3 => repeat (first | exact (Kd.C_below HR1_4.out HB.out) | (with_reducible apply Kd.C_alloc) | (with_reducible apply Kd.C_drewN) | (with_reducible apply Kd.C_drew))); (case side4 => exact HC1_4.out); rintro e w' ⟨rfl, ⟨nd, rfl⟩⟩; (try first | exact ⟨rfl, _, World.drewN_drewN _ _ _⟩ | exact ⟨rfl, _, Eq.trans (World.drewN_drewN _ _ _) (congrArg (World.drewN _) (Nat.add_assoc _ _ _))⟩)) | (go_at_call 43; (with_reducible refine (compositorref04_Same.calls k3 _ _ l0_5 _ _ l1_5 true _ ?side1 ?side2 ?side3 ?side4 A50.out).mono ?_); (case side1 => repeat (first | exact (Kd.C_below HR0_5.out (by repeat (first | (with_reducible first | exact HB.out | apply below_alloc | apply pw_below_drewN | apply below_drew1 | refine below_set ?_ GE149.out | refine below_set ?_ GE150.out) | exact HB.out))) | (with_reducible apply Kd.C_alloc) | (with_reducible apply Kd.C_drewN) | (with_reducible apply Kd.C_drew))); (case side2 => exact HC0_5.out); (case side3 => repeat (first | exact (Kd.C_below HR1_5.out (by repeat (first | (with_reducible first | exact HB.out | apply below_alloc | apply pw_below_drewN | apply below_drew1 | refine below_set ?_ GE149.out | refine below_set ?_ GE150.out) | exact HB.out))) | (with_reducible apply Kd.C_alloc) | (with_reducible apply Kd.C_drewN) | (with_reducible apply Kd.C_drew))); (case side4 => exact HC1_5.out); rintro e w' ⟨rfl, ⟨nd, rfl⟩⟩; (try first | exact ⟨rfl, _, World.drewN_drewN _ _ _⟩ | exact ⟨rfl, _, Eq.trans (World.drewN_drewN _ _ _) (congrArg (World.drewN _) (Nat.add_assoc _ _ _))⟩)) | (go_at_call 43; (with_reducible refine (compositorref04_Same.calls k3 _ _ l0_6 _ _ l1_6 true _ ?side1 ?side2 ?side3 ?side4 A52.out).mono ?_); (case side1 => repeat (first | exact (Kd.C_below HR0_6.out (by repeat (first | (with_reducible first | exact HB.out | apply below_alloc | apply pw_below_drewN | apply below_drew1 | refine below_set ?_ GE149.out | refine below_set ?_ GE150.out) | exact HB.out))) | (with_reducible apply Kd.C_alloc) | (with_reducible apply Kd.C_drewN) | (with_reducible apply Kd.C_drew))); (case side2 => exact HC0_6.out); (case side3 => repeat (first | exact (Kd.C_below HR1_6.out (by repeat (first | (with_reducible first | exact HB.out | apply below_alloc | apply pw_below_drewN | apply below_drew1 | refine below_set ?_ GE149.out | refine below_set ?_ GE150.out) | exact HB.out))) | (with_reducible apply Kd.C_alloc) | (with_reducible apply Kd.C_drewN) | (with_reducible apply Kd.C_drew))); (case side4 => exact HC1_6.out); rintro e w' ⟨rfl, ⟨nd, rfl⟩⟩; (try first | exact ⟨rfl, _, World.drewN_drewN _ _ _⟩ | exact ⟨rfl, _, Eq.trans (World.drewN_drewN _ _ _) (congrArg (World.drewN _) (Nat.add_assoc _ _ _))⟩)) | (go_at_call 43; (with_reducible refine (compositorref04_Same.calls k3 _ _ l0_7 _ _ l1_7 true _ ?side1 ?side2 ?side3 ?side4 A54.out).mono ?_); (case side1 => repeat (first | exact (Kd.C_below HR0_7.out (by repeat (first | (with_reducible first | exact HB.out | apply below_alloc | apply pw_below_drewN | apply below_drew1 | refine below_set ?_ GE149.out | refine below_set ?_ GE150.out) | exact HB.out))) | (with_reducible apply Kd.C_alloc) | (with_reducible apply Kd.C_drewN) | (with_reducible apply Kd.C_drew))); (case side2 => exact HC0_7.out); (case side3 => repeat (first | exact (Kd.C_below HR1_7.out (by repeat (first | (with_reducible first | exact HB.out | apply below_alloc | apply pw_below_drewN | apply below_drew1 | refine below_set ?_ GE149.out | refine below_set ?_ GE150.out) | exact HB.out))) | (with_reducible apply Kd.C_alloc) | (with_reducible apply Kd.C_drewN) | (with_reducible apply Kd.C_drew))); (case side4 => exact HC1_7.out); rintro e w' ⟨rfl, ⟨nd, rfl⟩⟩; (try first | exact ⟨rfl, _, World.drewN_drewN _ _ _⟩ | exact ⟨rfl, _, Eq.trans (World.drewN_drewN _ _ _) (congrArg (World.drewN _) (Nat.add_assoc _ _ _))⟩)) | (go_at_call 43; (with_reducible refine (compositorref04_Same.calls k3 _ _ l0_9 _ _ l1_9 false _ ?side1 ?side2 ?side3 ?side4 A56.out).mono ?_); (case side1 => repeat (first | exact (Kd.C_below HR0_9.out (by repeat (first | (with_reducible first | exact HB.out | apply below_alloc | apply pw_below_drewN | apply below_drew1 | refine below_set ?_ GE149.out | refine below_set ?_ GE150.out) | exact HB.out))) | (with_reducible apply Kd.C_alloc) | (with_reducible apply Kd.C_drewN) | (with_reducible apply Kd.C_drew))); (case side2 => exact HC0_9.out); (case side3 => repeat (first | exact (Kd.C_below HR1_9.out (by repeat (first | (with_reducible first | exact HB.out | apply below_alloc | apply pw_below_drewN | apply below_drew1 | refine below_set ?_ GE149.out | refine below_set ?_ GE150.out) | exact HB.out))) | (with_reducible apply Kd.C_alloc) | (with_reducible apply Kd.C_drewN) | (with_reducible apply Kd.C_drew))); (case side4 => exact HC1_9.out); rintro e w' ⟨rfl, ⟨nd, rfl⟩⟩; (try first | exact ⟨rfl, _, World.drewN_drewN _ _ _⟩ | exact ⟨rfl, _, Eq.trans (World.drewN_drewN _ _ _) (congrArg (World.drewN _) (Nat.add_assoc _ _ _))⟩))); try go_wp2_with (first | ((with_reducible refine gate_load (T := 26) rfl ?_); refine load_row_event (by first | rfl | (go_simp; done)) 26 _ rfl gb149 rfl 26 _ (0, 0) _ (by (with_reducible repeat (first | refine blk_drewN ?_ _ | refine blk_drew ?_ | refine blk_alloc ?_ _)); first | with_reducible exact BK149.out | with_reducible exact (blk_far BK149.out NB149_150.out _) | with_reducible exact (blk_far (blk_far BK149.out NB149_150.out _) NB149_150.out _) | with_reducible exact (blk_far (blk_far (blk_far BK149.out NB149_150.out _) NB149_150.out _) NB149_150.out _)) hu26 rfl (by kernel_rfl) ?_) | ((with_reducible refine gate_load (T := 26) rfl ?_); refine load_row_event (by first | rfl | (go_simp; done)) 26 _ rfl gb150 rfl 26 _ (0, 0) _ (by (with_reducible repeat (first | refine blk_drewN ?_ _ | refine blk_drew ?_ | refine blk_alloc ?_ _)); first | with_reducible exact BK150.out | with_reducible exact (blk_far BK150.out NB150_149.out _) | with_reducible exact (blk_far (blk_far BK150.out NB150_149.out _) NB150_149.out _) | with_reducible exact (blk_far (blk_far (blk_far BK150.out NB150_149.out _) NB150_149.out _) NB150_149.out _)) hu26 rfl (by kernel_rfl) ?_) | ((with_reducible refine gate_store (t := 26) rfl ?_); refine store_row_event (base := w.heap.size) rfl rfl 26 _ _ rfl (g := gb149) (by rfl) (by rfl) (by (with_reducible repeat (first | refine blk_drewN ?_ _ | refine blk_drew ?_ | refine blk_alloc ?_ _)); exact BK149.out) (by kernel_rfl) (by rfl) (by rfl) GE149.out ?_; intro ws_ hs_ hk_ hb_; have n0_ := Aside0.mk (Below.trans (by repeat (first | (with_reducible first | exact HB.out | apply below_alloc | apply pw_below_drewN | apply below_drew1) | exact HB.out)) hb_); clear HB; have HB := n0_; clear n0_; clear BK149; have BK149 := Aside0.mk hs_; clear hs_; (try (have z_ := Aside0.mk (blk_else BK150.out NB150_149.out hk_); clear BK150; have BK150 := z_; clear z_)); (try (have z_ := Aside0.mk (blk_else BK150.out NB150_149.out hk_); clear BK150; have BK150 := z_; clear z_)); (try (have z_ := Aside0.mk (blk_else BK150.out NB150_149.out hk_); clear BK150; have BK150 := z_; clear z_)); have hxs_ := blk_cell BK149.out; have hys_ := blk_frozen BK149.out; clear hk_ hb_) | ((with_reducible refine gate_store (t := 26) rfl ?_); refine store_row_event (base := w.heap.size) rfl rfl 26 _ _ rfl (g := gb150) (by rfl) (by rfl) (by (with_reducible repeat (first | refine blk_drewN ?_ _ | refine blk_drew ?_ | refine blk_alloc ?_ _)); exact BK150.out) (by kernel_rfl) (by rfl) (by rfl) GE150.out ?_; intro ws_ hs_ hk_ hb_; have n0_ := Aside0.mk (Below.trans (by repeat (first | (with_reducible first | exact HB.out | apply below_alloc | apply pw_below_drewN | apply below_drew1) | exact HB.out)) hb_); clear HB; have HB := n0_; clear n0_; clear BK150; have BK150 := Aside0.mk hs_; clear hs_; (try (have z_ := Aside0.mk (blk_else BK149.out NB149_150.out hk_); clear BK149; have BK149 := z_; clear z_)); (try (have z_ := Aside0.mk (blk_else BK149.out NB149_150.out hk_); clear BK149; have BK149 := z_; clear z_)); (try (have z_ := Aside0.mk (blk_else BK149.out NB149_150.out hk_); clear BK149; have BK149 := z_; clear z_)); have hxs_ := blk_cell BK150.out; have hys_ := blk_frozen BK150.out; clear hk_ hb_) | (go_at_call 43; (with_reducible refine (compositorref04_Same.calls k3 _ _ l0_4 _ _ l1_4 true _ ?side1 ?side2 ?side3 ?side4 A48.out).mono ?_); (case side1 => repeat (first | exact (Kd.C_below HR0_4.out HB.out) | (with_reducible apply Kd.C_alloc) | (with_reducible apply Kd.C_drewN) | (with_reducible apply Kd.C_drew))); (case side2 => exact HC0_4.out); (case side3 => repeat (first | exact (Kd.C_below HR1_4.out HB.out) | (with_reducible apply Kd.C_alloc) | (with_reducible apply Kd.C_drewN) | (with_reducible apply Kd.C_drew))); (case side4 => exact HC1_4.out); rintro e w' ⟨rfl, ⟨nd, rfl⟩⟩; (try first | exact ⟨rfl, _, World.drewN_drewN _ _ _⟩ | exact ⟨rfl, _, Eq.trans (World.drewN_drewN _ _ _) (congrArg (World.drewN _) (Nat.add_assoc _ _ _))⟩)) | (go_at_call 43; (with_reducible refine (compositorref04_Same.calls k3 _ _ l0_5 _ _ l1_5 true _ ?side1 ?side2 ?side3 ?side4 A50.out).mono ?_); (case side1 => repeat (first | exact (Kd.C_below HR0_5.out (by repeat (first | (with_reducible first | exact HB.out | apply below_alloc | apply pw_below_drewN | apply below_drew1 | refine below_set ?_ GE149.out | refine below_set ?_ GE150.out) | exact HB.out))) | (with_reducible apply Kd.C_alloc) | (with_reducible apply Kd.C_drewN) | (with_reducible apply Kd.C_drew))); (case side2 => exact HC0_5.out); (case side3 => repeat (first | exact (Kd.C_below HR1_5.out (by repeat (first | (with_reducible first | exact HB.out | apply below_alloc | apply pw_below_drewN | apply below_drew1 | refine below_set ?_ GE149.out | refine below_set ?_ GE150.out) | exact HB.out))) | (with_reducible apply Kd.C_alloc) | (with_reducible apply Kd.C_drewN) | (with_reducible apply Kd.C_drew))); (case side4 => exact HC1_5.out); rintro e w' ⟨rfl, ⟨nd, rfl⟩⟩; (try first | exact ⟨rfl, _, World.drewN_drewN _ _ _⟩ | exact ⟨rfl, _, Eq.trans (World.drewN_drewN _ _ _) (congrArg (World.drewN _) (Nat.add_assoc _ _ _))⟩)) | (go_at_call 43; (with_reducible refine (compositorref04_Same.calls k3 _ _ l0_6 _ _ l1_6 true _ ?side1 ?side2 ?side3 ?side4 A52.out).mono ?_); (case side1 => repeat (first | exact (Kd.C_below HR0_6.out (by repeat (first | (with_reducible first | exact HB.out | apply below_alloc | apply pw_below_drewN | apply below_drew1 | refine below_set ?_ GE149.out | refine below_set ?_ GE150.out) | exact HB.out))) | (with_reducible apply Kd.C_alloc) | (with_reducible apply Kd.C_drewN) | (with_reducible apply Kd.C_drew))); (case side2 => exact HC0_6.out); (case side3 => repeat (first | exact (Kd.C_below HR1_6.out (by repeat (first | (with_reducible first | exact HB.out | apply below_alloc | apply pw_below_drewN | apply below_drew1 | refine below_set ?_ GE149.out | refine below_set ?_ GE150.out) | exact HB.out))) | (with_reducible apply Kd.C_alloc) | (with_reducible apply Kd.C_drewN) | (with_reducible apply Kd.C_drew))); (case side4 => exact HC1_6.out); rintro e w' ⟨rfl, ⟨nd, rfl⟩⟩; (try first | exact ⟨rfl, _, World.drewN_drewN _ _ _⟩ | exact ⟨rfl, _, Eq.trans (World.drewN_drewN _ _ _) (congrArg (World.drewN _) (Nat.add_assoc _ _ _))⟩)) | (go_at_call 43; (with_reducible refine (compositorref04_Same.calls k3 _ _ l0_7 _ _ l1_7 true _ ?side1 ?side2 ?side3 ?side4 A54.out).mono ?_); (case side1 => repeat (first | exact (Kd.C_below HR0_7.out (by repeat (first | (with_reducible first | exact HB.out | apply below_alloc | apply pw_below_drewN | apply below_drew1 | refine below_set ?_ GE149.out | refine below_set ?_ GE150.out) | exact HB.out))) | (with_reducible apply Kd.C_alloc) | (with_reducible apply Kd.C_drewN) | (with_reducible apply Kd.C_drew))); (case side2 => exact HC0_7.out); (case side3 => repeat (first | exact (Kd.C_below HR1_7.out (by repeat (first | (with_reducible first | exact HB.out | apply below_alloc | apply pw_below_drewN | apply below_drew1 | refine below_set ?_ GE149.out | refine below_set ?_ GE150.out) | exact HB.out))) | (with_reducible apply Kd.C_alloc) | (with_reducible apply Kd.C_drewN) | (with_reducible apply Kd.C_drew))); (case side4 => exact HC1_7.out); rintro e w' ⟨rfl, ⟨nd, rfl⟩⟩; (try first | exact ⟨rfl, _, World.drewN_drewN _ _ _⟩ | exact ⟨rfl, _, Eq.trans (World.drewN_drewN _ _ _) (congrArg (World.drewN _) (Nat.add_assoc _ _ _))⟩)) | (go_at_call 43; (with_reducible refine (compositorref04_Same.calls k3 _ _ l0_9 _ _ l1_9 false _ ?side1 ?side2 ?side3 ?side4 A56.out).mono ?_); (case side1 => repeat (first | exact (Kd.C_below HR0_9.out (by repeat (first | (with_reducible first | exact HB.out | apply below_alloc | apply pw_below_drewN | apply below_drew1 | refine below_set ?_ GE149.out | refine below_set ?_ GE150.out) | exact HB.out))) | (with_reducible apply Kd.C_alloc) | (with_reducible apply Kd.C_drewN) | (with_reducible apply Kd.C_drew))); (case side2 => exact HC0_9.out); (case side3 => repeat (first | exact (Kd.C_below HR1_9.out (by repeat (first | (with_reducible first | exact HB.out | apply below_alloc | apply pw_below_drewN | apply below_drew1 | refine below_set ?_ GE149.out | refine below_set ?_ GE150.out) | exact HB.out))) | (with_reducible apply Kd.C_alloc) | (with_reducible apply Kd.C_drewN) | (with_reducible apply Kd.C_drew))); (case side4 => exact HC1_9.out); rintro e w' ⟨rfl, ⟨nd, rfl⟩⟩; (try first | exact ⟨rfl, _, World.drewN_drewN _ _ _⟩ | exact ⟨rfl, _, Eq.trans (World.drewN_drewN _ _ _) (congrArg (World.drewN _) (Nat.add_assoc _ _ _))⟩))))
               go_ret
               exact ⟨by first | rfl | (simp [errW_none, errW_some] <;> rfl) | (simp [*, errW_none, errW_some] <;> rfl), by repeat (first | (with_reducible first | exact HB.out | apply below_alloc | apply pw_below_drewN | apply below_drew1 | refine below_set ?_ GE149.out | refine below_set ?_ GE150.out) | exact HB.out)⟩
             ·replace c55 := Bool.eq_false_iff.mpr c55
              subst c55
              have H1 : (some false) = some r := by rw [if_neg (show ¬ (false = true) by decide)] at H; exact H
              clear H
              have H := H1
              clear H1
              obtain rfl := Option.some.inj H
              have hnb65 := NB149_150.out
              have hnc65 := NB150_149.out
              have hcz66_0 := blk_cell BK149.out
              have hfz66_0 := blk_frozen BK149.out
              have hcz67_0 := blk_cell BK150.out
              have hfz67_0 := blk_frozen BK150.out
              have tk_ : True := trivial
              go_wp2_with (first | ((with_reducible refine gate_load (T := 26) rfl ?_); refine load_row_event (by first | rfl | (go_simp; done)) 26 _ rfl gb149 rfl 26 _ (0, 0) _ (by (with_reducible repeat (first | refine blk_drewN ?_ _ | refine blk_drew ?_ | refine blk_alloc ?_ _)); first | with_reducible exact BK149.out | with_reducible exact (blk_far BK149.out NB149_150.out _) | with_reducible exact (blk_far (blk_far BK149.out NB149_150.out _) NB149_150.out _) | with_reducible exact (blk_far (blk_far (blk_far BK149.out NB149_150.out _) NB149_150.out _) NB149_150.out _)) hu26 rfl (by kernel_rfl) ?_) | ((with_reducible refine gate_load (T := 26) rfl ?_); refine load_row_event (by first | rfl | (go_simp; done)) 26 _ rfl gb150 rfl 26 _ (0, 0) _ (by (with_reducible repeat (first | refine blk_drewN ?_ _ | refine blk_drew ?_ | refine blk_alloc ?_ _)); first | with_reducible exact BK150.out | with_reducible exact (blk_far BK150.out NB150_149.out _) | with_reducible exact (blk_far (blk_far BK150.out NB150_149.out _) NB150_149.out _) | with_reducible exact (blk_far (blk_far (blk_far BK150.out NB150_149.out _) NB150_149.out _) NB150_149.out _)) hu26 rfl (by kernel_rfl) ?_) | ((with_reducible refine gate_store (t := 26) rfl ?_); refine store_row_event (base := w.heap.size) rfl rfl 26 _ _ rfl (g := gb149) (by rfl) (by rfl) (by (with_reducible repeat (first | refine blk_drewN ?_ _ | refine blk_drew ?_ | refine blk_alloc ?_ _)); exact BK149.out) (by kernel_rfl) (by rfl) (by rfl) GE149.out ?_; intro ws_ hs_ hk_ hb_; have n0_ := Aside0.mk (Below.trans (by repeat (first | (with_reducible first | exact HB.out | apply below_alloc | apply pw_below_drewN | apply below_drew1) | exact HB.out)) hb_); clear HB; have HB := n0_; clear n0_; clear BK149; have BK149 := Aside0.mk hs_; clear hs_; (try (have z_ := Aside0.mk (blk_else BK150.out NB150_149.out hk_); clear BK150; have BK150 := z_; clear z_)); (try (have z_ := Aside0.mk (blk_else BK150.out NB150_149.out hk_); clear BK150; have BK150 := z_; clear z_)); (try (have z_ := Aside0.mk (blk_else BK150.out NB150_149.out hk_); clear BK150; have BK150 := z_; clear z_)); have hxs_ := blk_cell BK149.out; have hys_ := blk_frozen BK149.out; clear hk_ hb_) | ((with_reducible refine gate_store (t := 26) rfl ?_); refine store_row_event (base := w.heap.size) rfl rfl 26 _ _ rfl (g := gb150) (by rfl) (by rfl) (by (with_reducible repeat (first | refine blk_drewN ?_ _ | refine blk_drew ?_ | refine blk_alloc ?_ _)); exact BK150.out) (by kernel_rfl) (by rfl) (by rfl) GE150.out ?_; intro ws_ hs_ hk_ hb_; have n0_ := Aside0.mk (Below.trans (by repeat (first | (with_reducible first | exact HB.out | apply below_alloc | apply pw_below_drewN | apply below_drew1) | exact HB.out)) hb_); clear HB; have HB := n0_; clear n0_; clear BK150; have BK150 := Aside0.mk hs_; clear hs_; (try (have z_ := Aside0.mk (blk_else BK149.out NB149_150.out hk_); clear BK149; have BK149 := z_; clear z_)); (try (have z_ := Aside0.mk (blk_else BK149.out NB149_150.out hk_); clear BK149; have BK149 := z_; clear z_)); (try (have z_ := Aside0.mk (blk_else BK149.out NB149_150.out hk_); clear BK149; have BK149 := z_; clear z_)); have hxs_ := blk_cell BK150.out; have hys_ := blk_frozen BK150.out; clear hk_ hb_) | (go_at_call 43; clear tk_; (with_reducible refine (compositorref04_Same.calls k3 _ _ l0_4 _ _ l1_4 true _ ?side1 ?side2 ?side3 ?side4 A48.out).mono ?_); (case side1 => repeat (first | exact (Kd.C_below HR0_4.out HB.out) | (with_reducible apply Kd.C_alloc) | (with_reducible apply Kd.C_drewN) | (with_reducible apply Kd.C_drew))); (case side2 => exact HC0_4.out); (case side3 => repeat (first | exact (Kd.C_below HR1_4.out HB.out) | (with_reducible apply Kd.C_alloc) | (with_reducible apply Kd.C_drewN) | (with_reducible apply Kd.C_drew))); (case side4 => exact HC1_4.out); rintro e w' ⟨rfl, ⟨nd, rfl⟩⟩; (try first | exact ⟨rfl, _, World.drewN_drewN _ _ _⟩ | exact ⟨rfl, _, Eq.trans (World.drewN_drewN _ _ _) (congrArg (World.drewN _) (Nat.add_assoc _ _ _))⟩)))
              as_aux_lemma =>
              have tk_ : True := trivial
              go_wp2_with (first | ((with_reducible refine gate_load (T := 26) rfl ?_); refine load_row_event (by first | rfl | (go_simp; done)) 26 _ rfl gb149 rfl 26 _ (0, 0) _ (by (with_reducible repeat (first | refine blk_drewN ?_ _ | refine blk_drew ?_ | refine blk_alloc ?_ _)); first | with_reducible exact BK149.out | with_reducible exact (blk_far BK149.out NB149_150.out _) | with_reducible exact (blk_far (blk_far BK149.out NB149_150.out _) NB149_150.out _) | with_reducible exact (blk_far (blk_far (blk_far BK149.out NB149_150.out _) NB149_150.out _) NB149_150.out _)) hu26 rfl (by kernel_rfl) ?_) | ((with_reducible refine gate_load (T := 26) rfl ?_); refine load_row_event (by first | rfl | (go_simp; done)) 26 _ rfl gb150 rfl 26 _ (0, 0) _ (by (with_reducible repeat (first | refine blk_drewN ?_ _ | refine blk_drew ?_ | refine blk_alloc ?_ _)); first | with_reducible exact BK150.out | with_reducible exact (blk_far BK150.out NB150_149.out _) | with_reducible exact (blk_far (blk_far BK150.out NB150_149.out _) NB150_149.out _) | with_reducible exact (blk_far (blk_far (blk_far BK150.out NB150_149.out _) NB150_149.out _) NB150_149.out _)) hu26 rfl (by kernel_rfl) ?_) | ((with_reducible refine gate_store (t := 26) rfl ?_); refine store_row_event (base := w.heap.size) rfl rfl 26 _ _ rfl (g := gb149) (by rfl) (by rfl) (by (with_reducible repeat (first | refine blk_drewN ?_ _ | refine blk_drew ?_ | refine blk_alloc ?_ _)); exact BK149.out) (by kernel_rfl) (by rfl) (by rfl) GE149.out ?_; intro ws_ hs_ hk_ hb_; have n0_ := Aside0.mk (Below.trans (by repeat (first | (with_reducible first | exact HB.out | apply below_alloc | apply pw_below_drewN | apply below_drew1) | exact HB.out)) hb_); clear HB; have HB := n0_; clear n0_; clear BK149; have BK149 := Aside0.mk hs_; clear hs_; (try (have z_ := Aside0.mk (blk_else BK150.out NB150_149.out hk_); clear BK150; have BK150 := z_; clear z_)); (try (have z_ := Aside0.mk (blk_else BK150.out NB150_149.out hk_); clear BK150; have BK150 := z_; clear z_)); (try (have z_ := Aside0.mk (blk_else BK150.out NB150_149.out hk_); clear BK150; have BK150 := z_; clear z_)); have hxs_ := blk_cell BK149.out; have hys_ := blk_frozen BK149.out; clear hk_ hb_) | ((with_reducible refine gate_store (t := 26) rfl ?_); refine store_row_event (base := w.heap.size) rfl rfl 26 _ _ rfl (g := gb150) (by rfl) (by rfl) (by (with_reducible repeat (first | refine blk_drewN ?_ _ | refine blk_drew ?_ | refine blk_alloc ?_ _)); exact BK150.out) (by kernel_rfl) (by rfl) (by rfl) GE150.out ?_; intro ws_ hs_ hk_ hb_; have n0_ := Aside0.mk (Below.trans (by repeat (first | (with_reducible first | exact HB.out | apply below_alloc | apply pw_below_drewN | apply below_drew1) | exact HB.out)) hb_); clear HB; have HB := n0_; clear n0_; clear BK150; have BK150 := Aside0.mk hs_; clear hs_; (try (have z_ := Aside0.mk (blk_else BK149.out NB149_150.out hk_); clear BK149; have BK149 := z_; clear z_)); (try (have z_ := Aside0.mk (blk_else BK149.out NB149_150.out hk_); clear BK149; have BK149 := z_; clear z_)); (try (have z_ := Aside0.mk (blk_else BK149.out NB149_150.out hk_); clear BK149; have BK149 := z_; clear z_)); have hxs_ := blk_cell BK150.out; have hys_ := blk_frozen BK150.out; clear hk_ hb_) | (go_at_call 43; clear tk_; (with_reducible refine (compositorref04_Same.calls k3 _ _ l0_5 _ _ l1_5 true _ ?side1 ?side2 ?side3 ?side4 A50.out).mono ?_); (case side1 => repeat (first | exact (Kd.C_below HR0_5.out (by repeat (first | (with_reducible first | exact HB.out | apply below_alloc | apply pw_below_drewN | apply below_drew1 | refine below_set ?_ GE149.out | refine below_set ?_ GE150.out) | exact HB.out))) | (with_reducible apply Kd.C_alloc) | (with_reducible apply Kd.C_drewN) | (with_reducible apply Kd.C_drew))); (case side2 => exact HC0_5.out); (case side3 => repeat (first | exact (Kd.C_below HR1_5.out (by repeat (first | (with_reducible first | exact HB.out | apply below_alloc | apply pw_below_drewN | apply below_drew1 | refine below_set ?_ GE149.out | refine below_set ?_ GE150.out) | exact HB.out))) | (with_reducible apply Kd.C_alloc) | (with_reducible apply Kd.C_drewN) | (with_reducible apply Kd.C_drew))); (case side4 => exact HC1_5.out); rintro e w' ⟨rfl, ⟨nd, rfl⟩⟩; (try first | exact ⟨rfl, _, World.drewN_drewN _ _ _⟩ | exact ⟨rfl, _, Eq.trans (World.drewN_drewN _ _ _) (congrArg (World.drewN _) (Nat.add_assoc _ _ _))⟩)))
              as_aux_lemma =>
              have tk_ : True := trivial
              go_wp2_with (first | ((with_reducible refine gate_load (T := 26) rfl ?_); refine load_row_event (by first | rfl | (go_simp; done)) 26 _ rfl gb149 rfl 26 _ (0, 0) _ (by (with_reducible repeat (first | refine blk_drewN ?_ _ | refine blk_drew ?_ | refine blk_alloc ?_ _)); first | with_reducible exact BK149.out | with_reducible exact (blk_far BK149.out NB149_150.out _) | with_reducible exact (blk_far (blk_far BK149.out NB149_150.out _) NB149_150.out _) | with_reducible exact (blk_far (blk_far (blk_far BK149.out NB149_150.out _) NB149_150.out _) NB149_150.out _)) hu26 rfl (by kernel_rfl) ?_) | ((with_reducible refine gate_load (T := 26) rfl ?_); refine load_row_event (by first | rfl | (go_simp; done)) 26 _ rfl gb150 rfl 26 _ (0, 0) _ (by (with_reducible repeat (first | refine blk_drewN ?_ _ | refine blk_drew ?_ | refine blk_alloc ?_ _)); first | with_reducible exact BK150.out | with_reducible exact (blk_far BK150.out NB150_149.out _) | with_reducible exact (blk_far (blk_far BK150.out NB150_149.out _) NB150_149.out _) | with_reducible exact (blk_far (blk_far (blk_far BK150.out NB150_149.out _) NB150_149.out _) NB150_149.out _)) hu26 rfl (by kernel_rfl) ?_) | ((with_reducible refine gate_store (t := 26) rfl ?_); refine store_row_event (base := w.heap.size) rfl rfl 26 _ _ rfl (g := gb149) (by rfl) (by rfl) (by (with_reducible repeat (first | refine blk_drewN ?_ _ | refine blk_drew ?_ | refine blk_alloc ?_ _)); exact BK149.out) (by kernel_rfl) (by rfl) (by rfl) GE149.out ?_; intro ws_ hs_ hk_ hb_; have n0_ := Aside0.mk (Below.trans (by repeat (first | (with_reducible first | exact HB.out | apply below_alloc | apply pw_below_drewN | apply below_drew1) | exact HB.out)) hb_); clear HB; have HB := n0_; clear n0_; clear BK149; have BK149 := Aside0.mk hs_; clear hs_; (try (have z_ := Aside0.mk (blk_else BK150.out NB150_149.out hk_); clear BK150; have BK150 := z_; clear z_)); (try (have z_ := Aside0.mk (blk_else BK150.out NB150_149.out hk_); clear BK150; have BK150 := z_; clear z_)); (try (have z_ := Aside0.mk (blk_else BK150.out NB150_149.out hk_); clear BK150; have BK150 := z_; clear z_)); have hxs_ := blk_cell BK149.out; have hys_ := blk_frozen BK149.out; clear hk_ hb_) | ((with_reducible refine gate_store (t := 26) rfl ?_); refine store_row_event (base := w.heap.size) rfl rfl 26 _ _ rfl (g := gb150) (by rfl) (by rfl) (by (with_reducible repeat (first | refine blk_drewN ?_ _ | refine blk_drew ?_ | refine blk_alloc ?_ _)); exact BK150.out) (by kernel_rfl) (by rfl) (by rfl) GE150.out ?_; intro ws_ hs_ hk_ hb_; have n0_ := Aside0.mk (Below.trans (by repeat (first | (with_reducible first | exact HB.out | apply below_alloc | apply pw_below_drewN | apply below_drew1) | exact HB.out)) hb_); clear HB; have HB := n0_; clear n0_; clear BK150; have BK150 := Aside0.mk hs_; clear hs_; (try (have z_ := Aside0.mk (blk_else BK149.out NB149_150.out hk_); clear BK149; have BK149 := z_; clear z_)); (try (have z_ := Aside0.mk (blk_else BK149.out NB149_150.out hk_); clear BK149; have BK149 := z_; clear z_)); (try (have z_ := Aside0.mk (blk_else BK149.out NB149_150.out hk_); clear BK149; have BK149 := z_; clear z_)); have hxs_ := blk_cell BK150.out; have hys_ := blk_frozen BK150.out; clear hk_ hb_) | (go_at_call 43; clear tk_; (with_reducible refine (compositorref04_Same.calls k3 _ _ l0_6 _ _ l1_6 true _ ?side1 ?side2 ?side3 ?side4 A52.out).mono ?_); (case side1 => repeat (first | exact (Kd.C_below HR0_6.out (by repeat (first | (with_reducible first | exact HB.out | apply below_alloc | apply pw_below_drewN | apply below_drew1 | refine below_set ?_ GE149.out | refine below_set ?_ GE150.out) | exact HB.out))) | (with_reducible apply Kd.C_alloc) | (with_reducible apply Kd.C_drewN) | (with_reducible apply Kd.C_drew))); (case side2 => exact HC0_6.out); (case side3 => repeat (first | exact (Kd.C_below HR1_6.out (by repeat (first | (with_reducible first | exact HB.out | apply below_alloc | apply pw_below_drewN | apply below_drew1 | refine below_set ?_ GE149.out | refine below_set ?_ GE150.out) | exact HB.out))) | (with_reducible apply Kd.C_alloc) | (with_reducible apply Kd.C_drewN) | (with_reducible apply Kd.C_drew))); (case side4 => exact HC1_6.out); rintro e w' ⟨rfl, ⟨nd, rfl⟩⟩; (try first | exact ⟨rfl, _, World.drewN_drewN _ _ _⟩ | exact ⟨rfl, _, Eq.trans (World.drewN_drewN _ _ _) (congrArg (World.drewN _) (Nat.add_assoc _ _ _))⟩)))
              as_aux_lemma =>
              have tk_ : True := trivial
              go_wp2_with (first | ((with_reducible refine gate_load (T := 26) rfl ?_); refine load_row_event (by first | rfl | (go_simp; done)) 26 _ rfl gb149 rfl 26 _ (0, 0) _ (by (with_reducible repeat (first | refine blk_drewN ?_ _ | refine blk_drew ?_ | refine blk_alloc ?_ _)); first | with_reducible exact BK149.out | with_reducible exact (blk_far BK149.out NB149_150.out _) | with_reducible exact (blk_far (blk_far BK149.out NB149_150.out _) NB149_150.out _) | with_reducible exact (blk_far (blk_far (blk_far BK149.out NB149_150.out _) NB149_150.out _) NB149_150.out _)) hu26 rfl (by kernel_rfl) ?_) | ((with_reducible refine gate_load (T := 26) rfl ?_); refine load_row_event (by first | rfl | (go_simp; done)) 26 _ rfl gb150 rfl 26 _ (0, 0) _ (by (with_reducible repeat (first | refine blk_drewN ?_ _ | refine blk_drew ?_ | refine blk_alloc ?_ _)); first | with_reducible exact BK150.out | with_reducible exact (blk_far BK150.out NB150_149.out _) | with_reducible exact (blk_far (blk_far BK150.out NB150_149.out _) NB150_149.out _) | with_reducible exact (blk_far (blk_far (blk_far BK150.out NB150_149.out _) NB150_149.out _) NB150_149.out _)) hu26 rfl (by kernel_rfl) ?_) | ((with_reducible refine gate_store (t := 26) rfl ?_); refine store_row_event (base := w.heap.size) rfl rfl 26 _ _ rfl (g := gb149) (by rfl) (by rfl) (by (with_reducible repeat (first | refine blk_drewN ?_ _ | refine blk_drew ?_ | refine blk_alloc ?_ _)); exact BK149.out) (by kernel_rfl) (by rfl) (by rfl) GE149.out ?_; intro ws_ hs_ hk_ hb_; have n0_ := Aside0.mk (Below.trans (by repeat (first | (with_reducible first | exact HB.out | apply below_alloc | apply pw_below_drewN | apply below_drew1) | exact HB.out)) hb_); clear HB; have HB := n0_; clear n0_; clear BK149; have BK149 := Aside0.mk hs_; clear hs_; (try (have z_ := Aside0.mk (blk_else BK150.out NB150_149.out hk_); clear BK150; have BK150 := z_; clear z_)); (try (have z_ := Aside0.mk (blk_else BK150.out NB150_149.out hk_); clear BK150; have BK150 := z_; clear z_)); (try (have z_ := Aside0.mk (blk_else BK150.out NB150_149.out hk_); clear BK150; have BK150 := z_; clear z_)); have hxs_ := blk_cell BK149.out; have hys_ := blk_frozen BK149.out; clear hk_ hb_) | ((with_reducible refine gate_store (t := 26) rfl ?_); refine store_row_event (base := w.heap.size) rfl rfl 26 _ _ rfl (g := gb150) (by rfl) (by rfl) (by (with_reducible repeat (first | refine blk_drewN ?_ _ | refine blk_drew ?_ | refine blk_alloc ?_ _)); exact BK150.out) (by kernel_rfl) (by rfl) (by rfl) GE150.out ?_; intro ws_ hs_ hk_ hb_; have n0_ := Aside0.mk (Below.trans (by repeat (first | (with_reducible first | exact HB.out | apply below_alloc | apply pw_below_drewN | apply below_drew1) | exact HB.out)) hb_); clear HB; have HB := n0_; clear n0_; clear BK150; have BK150 := Aside0.mk hs_; clear hs_; (try (have z_ := Aside0.mk (blk_else BK149.out NB149_150.out hk_); clear BK149; have BK149 := z_; clear z_)); (try (have z_ := Aside0.mk (blk_else BK149.out NB149_150.out hk_); clear BK149; have BK149 := z_; clear z_)); (try (have z_ := Aside0.mk (blk_else BK149.out NB149_150.out hk_); clear BK149; have BK149 := z_; clear z_)); have hxs_ := blk_cell BK150.out; have hys_ := blk_frozen BK150.out; clear hk_ hb_) | (go_at_call 43; clear tk_; (with_reducible refine (compositorref04_Same.calls k3 _ _ l0_7 _ _ l1_7 false _ ?side1 ?side2 ?side3 ?side4 A54.out).mono ?_); (case side1 => repeat (first | exact (Kd.C_below HR0_7.out (by repeat (first | (with_reducible first | exact HB.out | apply below_alloc | apply pw_below_drewN | apply below_drew1 | refine below_set ?_ GE149.out | refine below_set ?_ GE150.out) | exact HB.out))) | (with_reducible apply Kd.C_alloc) | (with_reducible apply Kd.C_drewN) | (with_reducible apply Kd.C_drew))); (case side2 => exact HC0_7.out); (case side3 => repeat (first | exact (Kd.C_below HR1_7.out (by repeat (first | (with_reducible first | exact HB.out | apply below_alloc | apply pw_below_drewN | apply below_drew1 | refine below_set ?_ GE149.out | refine below_set ?_ GE150.out) | exact HB.out))) | (with_reducible apply Kd.C_alloc) | (with_reducible apply Kd.C_drewN) | (with_reducible apply Kd.C_drew))); (case side4 => exact HC1_7.out); rintro e w' ⟨rfl, ⟨nd, rfl⟩⟩; (try first | exact ⟨rfl, _, World.drewN_drewN _ _ _⟩ | exact ⟨rfl, _, Eq.trans (World.drewN_drewN _ _ _) (congrArg (World.drewN _) (Nat.add_assoc _ _ _))⟩)))
              repeat (go_quiet (first | (go_at_call 43; (with_reducible refine (compositorref04_Same.calls k3 _ _ l0_4 _ _ l1_4 true _ ?side1 ?side2 ?side3 ?side4 A48.out).mono ?_); (case side1 => repeat (first | exact (Kd.C_below HR0_4.out HB.out) | (with_reducible apply Kd.C_alloc) | (with_reducible apply Kd.C_drewN) | (with_reducible apply Kd.C_drew))); (case side2 => exact HC0_4.out); (case side3 => repeat (first | exact (Kd.C_below HR1_4.out HB.out) | (with_reducible apply Kd.C_alloc) | (with_reducible apply Kd.C_drewN) | (with_reducible apply Kd.C_drew))); (case side4 => exact HC1_4.out); rintro e w' ⟨rfl, ⟨nd, rfl⟩⟩; (try first | exact ⟨rfl, _, World.drewN_drewN _ _ _⟩ | exact ⟨rfl, _, Eq.trans (World.drewN_drewN _ _ _) (congrArg (World.drewN _) (Nat.add_assoc _ _ _))⟩)) | (go_at_call 43; (with_reducible refine (compositorref04_Same.calls k3 _ _ l0_5 _ _ l1_5 true _ ?side1 ?side2 ?side3 ?side4 A50.out).mono ?_); (case side1 => repeat (first | exact (Kd.C_below HR0_5.out (by repeat (first | (with_reducible first | exact HB.out | apply below_alloc | apply pw_below_drewN | apply below_drew1 | refine below_set ?_ GE149.out | refine below_set ?_ GE150.out) | exact HB.out))) | (with_reducible apply Kd.C_alloc) | (with_reducible apply Kd.C_drewN) | (with_reducible apply Kd.C_drew))); (case side2 => exact HC0_5.out); (case side3 => repeat (first | exact (Kd.C_below HR1_5.out (by repeat (first | (with_reducible first | exact HB.out | apply below_alloc | apply pw_below_drewN | apply below_drew1 | refine below_set ?_ GE149.out | refine below_set ?_ GE150.out) | exact HB.out))) | (with_reducible apply Kd.C_alloc) | (with_reducible apply Kd.C_drewN) | (with_reducible apply Kd.C_drew))); (case side4 => exact HC1_5.out); rintro e w' ⟨rfl, ⟨nd, rfl⟩⟩; (try first | exact ⟨rfl, _, World.drewN_drewN _ _ _⟩ | exact ⟨rfl, _, Eq.trans (World.drewN_drewN _ _ _) (congrArg (World.drewN _) (Nat.add_assoc _ _ _))⟩)) | (go_at_call 43; (with_reducible refine (compositorref04_Same.calls k3 _ _ l0_6 _ _ l1_6 true _ ?side1 ?side2 ?side3 ?side4 A52.out).mono ?_); (case side1 => repeat (first | exact (Kd.C_below HR0_6.out (by repeat (first | (with_reducible first | exact HB.out | apply below_alloc | apply pw_below_drewN | apply below_drew1 | refine below_set ?_ GE149.out | refine below_set ?_ GE150.out) | exact HB.out))) | (with_reducible apply Kd.C_alloc) | (with_reducible apply Kd.C_drewN) | (with_reducible apply Kd.C_drew))); (case side2 => exact HC0_6.out); (case side3 => repeat (first | exact (Kd.C_below HR1_6.out (by repeat (first | (with_reducible first | exact HB.out | apply below_alloc | apply pw_below_drewN | apply below_drew1 | refine below_set ?_ GE149.out | refine below_set ?_ GE150.out) | exact HB.out))) | (with_reducible apply Kd.C_alloc) | (with_reducible apply Kd.C_drewN) | (with_reducible apply Kd.C_drew))); (case side4 => exact HC1_6.out); rintro e w' ⟨rfl, ⟨nd, rfl⟩⟩; (try first | exact ⟨rfl, _, World.drewN_drewN _ _ _⟩ | exact ⟨rfl, _, Eq.trans (World.drewN_drewN _ _ _) (congrArg (World.drewN _) (Nat.add_assoc _ _ _))⟩)) | (go_at_call 43; (with_reducible refine (compositorref04_Same.calls k3 _ _ l0_7 _ _ l1_7 false _ ?side1 ?side2 ?side3 ?side4 A54.out).mono ?_); (case side1 => repeat (first | exact (Kd.C_below HR0_7.out (by repeat (first | (with_reducible first | exact HB.out | apply below_alloc | apply pw_below_drewN | apply below_drew1 | refine below_set ?_ GE149.out | refine below_set ?_ GE150.out) | exact HB.out))) | (with_reducible apply Kd.C_alloc) | (with_reducible apply Kd.C_drewN) | (with_reducible apply Kd.C_drew))); (case side2 => exact HC0_7.out); (case side3 => repeat (first | exact (Kd.C_below HR1_7.out (by repeat (first | (with_reducible first | exact HB.out | apply below_alloc | apply pw_below_drewN | apply below_drew1 | refine below_set ?_ GE149.out | refine below_set ?_ GE150.out) | exact HB.out))) | (with_reducible apply Kd.C_alloc) | (with_reducible apply Kd.C_drewN) | (with_reducible apply Kd.C_drew))); (case side4 => exact HC1_7.out); rintro e w' ⟨rfl, ⟨nd, rfl⟩⟩; (try first | exact ⟨rfl, _, World.drewN_drewN _ _ _⟩ | exact ⟨rfl, _, Eq.trans (World.drewN_drewN _ _ _) (congrArg (World.drewN _) (Nat.add_assoc _ _ _))⟩))); try go_wp2_with (first | ((with_reducible refine gate_load (T := 26) rfl ?_); refine load_row_event (by first | rfl | (go_simp; done)) 26 _ rfl gb149 rfl 26 _ (0, 0) _ (by (with_reducible repeat (first | refine blk_drewN ?_ _ | refine blk_drew ?_ | refine blk_alloc ?_ _)); first | with_reducible exact BK149.out | with_reducible exact (blk_far BK149.out NB149_150.out _) | with_reducible exact (blk_far (blk_far BK149.out NB149_150.out _) NB149_150.out _) | with_reducible exact (blk_far (blk_far (blk_far BK149.out NB149_150.out _) NB149_150.out _) NB149_150.out _)) hu26 rfl (by kernel_rfl) ?_) | ((with_reducible refine gate_load (T := 26) rfl ?_); refine load_row_event (by first | rfl | (go_simp; done)) 26 _ rfl gb150 rfl 26 _ (0, 0) _ (by (with_reducible repeat (first | refine blk_drewN ?_ _ | refine blk_drew ?_ | refine blk_alloc ?_ _)); first | with_reducible exact BK150.out | with_reducible exact (blk_far BK150.out NB150_149.out _) | with_reducible exact (blk_far (blk_far BK150.out NB150_149.out _) NB150_149.out _) | with_reducible exact (blk_far (blk_far (blk_far BK150.out NB150_149.out _) NB150_149.out _) NB150_149.out _)) hu26 rfl (by kernel_rfl) ?_) | ((with_reducible refine gate_store (t := 26) rfl ?_); refine store_row_event (base := w.heap.size) rfl rfl 26 _ _ rfl (g := gb149) (by rfl) (by rfl) (by (with_reducible repeat (first | refine blk_drewN ?_ _ | refine blk_drew ?_ | refine blk_alloc ?_ _)); exact BK149.out) (by kernel_rfl) (by rfl) (by rfl) GE149.out ?_; intro ws_ hs_ hk_ hb_; have n0_ := Aside0.mk (Below.trans (by repeat (first | (with_reducible first | exact HB.out | apply below_alloc | apply pw_below_drewN | apply below_drew1) | exact HB.out)) hb_); clear HB; have HB := n0_; clear n0_; clear BK149; have BK149 := Aside0.mk hs_; clear hs_; (try (have z_ := Aside0.mk (blk_else BK150.out NB150_149.out hk_); clear BK150; have BK150 := z_; clear z_)); (try (have z_ := Aside0.mk (blk_else BK150.out NB150_149.out hk_); clear BK150; have BK150 := z_; clear z_)); (try (have z_ := Aside0.mk (blk_else BK150.out NB150_149.out hk_); clear BK150; have BK150 := z_; clear z_)); have hxs_ := blk_cell BK149.out; have hys_ := blk_frozen BK149.out; clear hk_ hb_) | ((with_reducible refine gate_store (t := 26) rfl ?_); refine store_row_event (base := w.heap.size) rfl rfl 26 _ _ rfl (g := gb150) (by rfl) (by rfl) (by (with_reducible repeat (first | refine blk_drewN ?_ _ | refine blk_drew ?_ | refine blk_alloc ?_ _)); exact BK150.out) (by kernel_rfl) (by rfl) (by rfl) GE150.out ?_; intro ws_ hs_ hk_ hb_; have n0_ := Aside0.mk (Below.trans (by repeat (first | (with_reducible first | exact HB.out | apply below_alloc | apply pw_below_drewN | apply below_drew1) | exact HB.out)) hb_); clear HB; have HB := n0_; clear n0_; clear BK150; have BK150 := Aside0.mk hs_; clear hs_; (try (have z_ := Aside0.mk (blk_else BK149.out NB149_150.out hk_); clear BK149; have BK149 := z_; clear z_)); (try (have z_ := Aside0.mk (blk_else BK149.out NB149_150.out hk_); clear BK149; have BK149 := z_; clear z_)); (try (have z_ := Aside0.mk (blk_else BK149.out NB149_150.out hk_); clear BK149; have BK149 := z_; clear z_)); have hxs_ := blk_cell BK150.out; have hys_ := blk_frozen BK150.out; clear hk_ hb_) | (go_at_call 43; (with_reducible refine (compositorref04_Same.calls k3 _ _ l0_4 _ _ l1_4 true _ ?side1 ?side2 ?side3 ?side4 A48.out).mono ?_); (case side1 => repeat (first | exact (Kd.C_below HR0_4.out HB.out) | (with_reducible apply Kd.C_alloc) | (with_reducible apply Kd.C_drewN) | (with_reducible apply Kd.C_drew))); (case side2 => exact HC0_4.out); (case side3 => repeat (first | exact (Kd.C_below HR1_4.out HB.out) | (with_reducible apply Kd.C_alloc) | (with_reducible apply Kd.C_drewN) | (with_reducible apply Kd.C_drew))); (case side4 => exact HC1_4.out); rintro e w' ⟨rfl, ⟨nd, rfl⟩⟩; (try first | exact ⟨rfl, _, World.drewN_drewN _ _ _⟩ | exact ⟨rfl, _, Eq.trans (World.drewN_drewN _ _ _) (congrArg (World.drewN _) (Nat.add_assoc _ _ _))⟩)) | (go_at_call 43; (with_reducible refine (compositorref04_Same.calls k3 _ _ l0_5 _ _ l1_5 true _ ?side1 ?side2 ?side3 ?side4 A50.out).mono ?_); (case side1 => repeat (first | exact (Kd.C_below HR0_5.out (by repeat (first | (with_reducible first | exact HB.out | apply below_alloc | apply pw_below_drewN | apply below_drew1 | refine below_set ?_ GE149.out | refine below_set ?_ GE150.out) | exact HB.out))) | (with_reducible apply Kd.C_alloc) | (with_reducible apply Kd.C_drewN) | (with_reducible apply Kd.C_drew))); (case side2 => exact HC0_5.out); (case side3 => repeat (first | exact (Kd.C_below HR1_5.out (by repeat (first | (with_reducible first | exact HB.out | apply below_alloc | apply pw_below_drewN | apply below_drew1 | refine below_set ?_ GE149.out | refine below_set ?_ GE150.out) | exact HB.out))) | (with_reducible apply Kd.C_alloc) | (with_reducible apply Kd.C_drewN) | (with_reducible apply Kd.C_drew))); (case side4 => exact HC1_5.out); rintro e w' ⟨rfl, ⟨nd, rfl⟩⟩; (try first | exact ⟨rfl, _, World.drewN_drewN _ _ _⟩ | exact ⟨rfl, _, Eq.trans (World.drewN_drewN _ _ _) (congrArg (World.drewN _) (Nat.add_assoc _ _ _))⟩)) | (go_at_call 43; (with_reducible refine (compositorref04_Same.calls k3 _ _ l0_6 _ _ l1_6 true _ ?side1 ?side2 ?side3 ?side4 A52.out).mono ?_); (case side1 => repeat (first | exact (Kd.C_below HR0_6.out (by repeat (first | (with_reducible first | exact HB.out | apply below_alloc | apply pw_below_drewN | apply below_drew1 | refine below_set ?_ GE149.out | refine below_set ?_ GE150.out) | exact HB.out))) | (with_reducible apply Kd.C_alloc) | (with_reducible apply Kd.C_drewN) | (with_reducible apply Kd.C_drew))); (case side2 => exact HC0_6.out); (case side3 => repeat (first | exact (Kd.C_below HR1_6.out (by repeat (first | (with_reducible first | exact HB.out | apply below_alloc | apply pw_below_drewN | apply below_drew1 | refine below_set ?_ GE149.out | refine below_set ?_ GE150.out) | exact HB.out))) | (with_reducible apply Kd.C_alloc) | (with_reducible apply Kd.C_drewN) | (with_reducible apply Kd.C_drew))); (case side4 => exact HC1_6.out); rintro e w' ⟨rfl, ⟨nd, rfl⟩⟩; (try first | exact ⟨rfl, _, World.drewN_drewN _ _ _⟩ | exact ⟨rfl, _, Eq.trans (World.drewN_drewN _ _ _) (congrArg (World.drewN _) (Nat.add_assoc _ _ _))⟩)) | (go_at_call 43; (with_reducible refine (compositorref04_Same.calls k3 _ _ l0_7 _ _ l1_7 false _ ?side1 ?side2 ?side3 ?side4 A54.out).mono ?_); (case side1 => repeat (first | exact (Kd.C_below HR0_7.out (by repeat (first | (with_reducible first | exact HB.out | apply below_alloc | apply pw_below_drewN | apply below_drew1 | refine below_set ?_ GE149.out | refine below_set ?_ GE150.out) | exact HB.out))) | (with_reducible apply Kd.C_alloc) | (with_reducible apply Kd.C_drewN) | (with_reducible apply Kd.C_drew))); (case side2 => exact HC0_7.out); (case side3 => repeat (first | exact (Kd.C_below HR1_7.out (by repeat (first | (with_reducible first | exact HB.out | apply below_alloc | apply pw_below_drewN | apply below_drew1 | refine below_set ?_ GE149.out | refine below_set ?_ GE150.out) | exact HB.out))) | (with_reducible apply Kd.C_alloc) | (with_reducible apply Kd.C_drewN) | (with_reducible apply Kd.C_drew))); (case side4 => exact HC1_7.out); rintro e w' ⟨rfl, ⟨nd, rfl⟩⟩; (try first | exact ⟨rfl, _, World.drewN_drewN _ _ _⟩ | exact ⟨rfl, _, Eq.trans (World.drewN_drewN _ _ _) (congrArg (World.drewN _) (Nat.add_assoc _ _ _))⟩))))
              go_ret
              exact ⟨by first | rfl | (simp [errW_none, errW_some] <;> rfl) | (simp [*, errW_none, errW_some] <;> rfl), by repeat (first | (with_reducible first | exact HB.out | apply below_alloc | apply pw_below_drewN | apply below_drew1 | refine below_set ?_ GE149.out | refine below_set ?_ GE150.out) | exact HB.out)⟩
            ·replace c53 := Bool.eq_false_iff.mpr c53
             subst c53
             have H1 : (some false) = some r := by rw [if_neg (show ¬ (false = true) by decide)] at H; exact H
             clear H
             have H := H1
             clear H1
             obtain rfl := Option.some.inj H
             have hnb68 := NB149_150.out
             have hnc68 := NB150_149.out
             have hcz69_0 := blk_cell BK149.out
             have hfz69_0 := blk_frozen BK149.out
             have hcz70_0 := blk_cell BK150.out
             have hfz70_0 := blk_frozen BK150.out
             have tk_ : True := trivial
             go_wp2_with (first | ((with_reducible refine gate_load (T := 26) rfl ?_); refine load_row_event (by first | rfl | (go_simp; done)) 26 _ rfl gb149 rfl 26 _ (0, 0) _ (by (with_reducible repeat (first | refine blk_drewN ?_ _ | refine blk_drew ?_ | refine blk_alloc ?_ _)); first | with_reducible exact BK149.out | with_reducible exact (blk_far BK149.out NB149_150.out _) | with_reducible exact (blk_far (blk_far BK149.out NB149_150.out _) NB149_150.out _) | with_reducible exact (blk_far (blk_far (blk_far BK149.out NB149_150.out _) NB149_150.out _) NB149_150.out _)) hu26 rfl (by kernel_rfl) ?_) | ((with_reducible refine gate_load (T := 26) rfl ?_); refine load_row_event (by first | rfl | (go_simp; done)) 26 _ rfl gb150 rfl 26 _ (0, 0) _ (by (with_reducible repeat (first | refine blk_drewN ?_ _ | refine blk_drew ?_ | refine blk_alloc ?_ _)); first | with_reducible exact BK150.out | with_reducible exact (blk_far BK150.out NB150_149.out _) | with_reducible exact (blk_far (blk_far BK150.out NB150_149.out _) NB150_149.out _) | with_reducible exact (blk_far (blk_far (blk_far BK150.out NB150_149.out _) NB150_149.out _) NB150_149.out _)) hu26 rfl (by kernel_rfl) ?_) | ((with_reducible refine gate_store (t := 26) rfl ?_); refine store_row_event (base := w.heap.size) rfl rfl 26 _ _ rfl (g := gb149) (by rfl) (by rfl) (by (with_reducible repeat (first | refine blk_drewN ?_ _ | refine blk_drew ?_ | refine blk_alloc ?_ _)); exact BK149.out) (by kernel_rfl) (by rfl) (by rfl) GE149.out ?_; intro ws_ hs_ hk_ hb_; have n0_ := Aside0.mk (Below.trans (by repeat (first | (with_reducible first | exact HB.out | apply below_alloc | apply pw_below_drewN | apply below_drew1) | exact HB.out)) hb_); clear HB; have HB := n0_; clear n0_; clear BK149; have BK149 := Aside0.mk hs_; clear hs_; (try (have z_ := Aside0.mk (blk_else BK150.out NB150_149.out hk_); clear BK150; have BK150 := z_; clear z_)); (try (have z_ := Aside0.mk (blk_else BK150.out NB150_149.out hk_); clear BK150; have BK150 := z_; clear z_)); (try (have z_ := Aside0.mk (blk_else BK150.out NB150_149.out hk_); clear BK150; have BK150 := z_; clear z_)); have hxs_ := blk_cell BK149.out; have hys_ := blk_frozen BK149.out; clear hk_ hb_) | ((with_reducible refine gate_store (t := 26) rfl ?_); refine store_row_event (base := w.heap.size) rfl rfl 26 _ _ rfl (g := gb150) (by rfl) (by rfl) (by (with_reducible repeat (first | refine blk_drewN ?_ _ | refine blk_drew ?_ | refine blk_alloc ?_ _)); exact BK150.out) (by kernel_rfl) (by rfl) (by rfl) GE150.out ?_; intro ws_ hs_ hk_ hb_; have n0_ := Aside0.mk (Below.trans (by repeat (first | (with_reducible first | exact HB.out | apply below_alloc | apply pw_below_drewN | apply below_drew1) | exact HB.out)) hb_); clear HB; have HB := n0_; clear n0_; clear BK150; have BK150 := Aside0.mk hs_; clear hs_; (try (have z_ := Aside0.mk (blk_else BK149.out NB149_150.out hk_); clear BK149; have BK149 := z_; clear z_)); (try (have z_ := Aside0.mk (blk_else BK149.out NB149_150.out hk_); clear BK149; have BK149 := z_; clear z_)); (try (have z_ := Aside0.mk (blk_else BK149.out NB149_150.out hk_); clear BK149; have BK149 := z_; clear z_)); have hxs_ := blk_cell BK150.out; have hys_ := blk_frozen BK150.out; clear hk_ hb_) | (go_at_call 43; clear tk_; (with_reducible refine (compositorref04_Same.calls k3 _ _ l0_4 _ _ l1_4 true _ ?side1 ?side2 ?side3 ?side4 A48.out).mono ?_); (case side1 => repeat (first | exact (Kd.C_below HR0_4.out HB.out) | (with_reducible apply Kd.C_alloc) | (with_reducible apply Kd.C_drewN) | (with_reducible apply Kd.C_drew))); (case side2 => exact HC0_4.out); (case side3 => repeat (first | exact (Kd.C_below HR1_4.out HB.out) | (with_reducible apply Kd.C_alloc) | (with_reducible apply Kd.C_drewN) | (with_reducible apply Kd.C_drew))); (case side4 => exact HC1_4.out); rintro e w' ⟨rfl, ⟨nd, rfl⟩⟩; (try first | exact ⟨rfl, _, World.drewN_drewN _ _ _⟩ | exact ⟨rfl, _, Eq.trans (World.drewN_drewN _ _ _) (congrArg (World.drewN _) (Nat.add_assoc _ _ _))⟩)))
             as_aux_lemma =>
             have tk_ : True := trivial
             go_wp2_with (first | ((with_reducible refine gate_load (T := 26) rfl ?_); refine load_row_event (by first | rfl | (go_simp; done)) 26 _ rfl gb149 rfl 26 _ (0, 0) _ (by (with_reducible repeat (first | refine blk_drewN ?_ _ | refine blk_drew ?_ | refine blk_alloc ?_ _)); first | with_reducible exact BK149.out | with_reducible exact (blk_far BK149.out NB149_150.out _) | with_reducible exact (blk_far (blk_far BK149.out NB149_150.out _) NB149_150.out _) | with_reducible exact (blk_far (blk_far (blk_far BK149.out NB149_150.out _) NB149_150.out _) NB149_150.out _)) hu26 rfl (by kernel_rfl) ?_) | ((with_reducible refine gate_load (T := 26) rfl ?_); refine load_row_event (by first | rfl | (go_simp; done)) 26 _ rfl gb150 rfl 26 _ (0, 0) _ (by (with_reducible repeat (first | refine blk_drewN ?_ _ | refine blk_drew ?_ | refine blk_alloc ?_ _)); first | with_reducible exact BK150.out | with_reducible exact (blk_far BK150.out NB150_149.out _) | with_reducible exact (blk_far (blk_far BK150.out NB150_149.out _) NB150_149.out _) | with_reducible exact (blk_far (blk_far (blk_far BK150.out NB150_149.out _) NB150_149.out _) NB150_149.out _)) hu26 rfl (by kernel_rfl) ?_) | ((with_reducible refine gate_store (t := 26) rfl ?_); refine store_row_event (base := w.heap.size) rfl rfl 26 _ _ rfl (g := gb149) (by rfl) (by rfl) (by (with_reducible repeat (first | refine blk_drewN ?_ _ | refine blk_drew ?_ | refine blk_alloc ?_ _)); exact BK149.out) (by kernel_rfl) (by rfl) (by rfl) GE149.out ?_; intro ws_ hs_ hk_ hb_; have n0_ := Aside0.mk (Below.trans (by repeat (first | (with_reducible first | exact HB.out | apply below_alloc | apply pw_below_drewN | apply below_drew1) | exact HB.out)) hb_); clear HB; have HB := n0_; clear n0_; clear BK149; have BK149 := Aside0.mk hs_; clear hs_; (try (have z_ := Aside0.mk (blk_else BK150.out NB150_149.out hk_); clear BK150; have BK150 := z_; clear z_)); (try (have z_ := Aside0.mk (blk_else BK150.out NB150_149.out hk_); clear BK150; have BK150 := z_; clear z_)); (try (have z_ := Aside0.mk (blk_else BK150.out NB150_149.out hk_); clear BK150; have BK150 := z_; clear z_)); have hxs_ := blk_cell BK149.out; have hys_ := blk_frozen BK149.out; clear hk_ hb_) | ((with_reducible refine gate_store (t := 26) rfl ?_); refine store_row_event (base := w.heap.size) rfl rfl 26 _ _ rfl (g := gb150) (by rfl) (by rfl) (by (with_reducible repeat (first | refine blk_drewN ?_ _ | refine blk_drew ?_ | refine blk_alloc ?_ _)); exact BK150.out) (by kernel_rfl) (by rfl) (by rfl) GE150.out ?_; intro ws_ hs_ hk_ hb_; have n0_ := Aside0.mk (Below.trans (by repeat (first | (with_reducible first | exact HB.out | apply below_alloc | apply pw_below_drewN | apply below_drew1) | exact HB.out)) hb_); clear HB; have HB := n0_; clear n0_; clear BK150; have BK150 := Aside0.mk hs_; clear hs_; (try (have z_ := Aside0.mk (blk_else BK149.out NB149_150.out hk_); clear BK149; have BK149 := z_; clear z_)); (try (have z_ := Aside0.mk (blk_else BK149.out NB149_150.out hk_); clear BK149; have BK149 := z_; clear z_)); (try (have z_ := Aside0.mk (blk_else BK149.out NB149_150.out hk_); clear BK149; have BK149 := z_; clear z_)); have hxs_ := blk_cell BK150.out; have hys_ := blk_frozen BK150.out; clear hk_ hb_) | (go_at_call 43; clear tk_; (with_reducible refine (compositorref04_Same.calls k3 _ _ l0_5 _ _ l1_5 true _ ?side1 ?side2 ?side3 ?side4 A50.out).mono ?_); (case side1 => repeat (first | exact (Kd.C_below HR0_5.out (by repeat (first | (with_reducible first | exact HB.out | apply below_alloc | apply pw_below_drewN | apply below_drew1 | refine below_set ?_ GE149.out | refine below_set ?_ GE150.out) | exact HB.out))) | (with_reducible apply Kd.C_alloc) | (with_reducible apply Kd.C_drewN) | (with_reducible apply Kd.C_drew))); (case side2 => exact HC0_5.out); (case side3 => repeat (first | exact (Kd.C_below HR1_5.out (by repeat (first | (with_reducible first | exact HB.out | apply below_alloc | apply pw_below_drewN | apply below_drew1 | refine below_set ?_ GE149.out | refine below_set ?_ GE150.out) | exact HB.out))) | (with_reducible apply Kd.C_alloc) | (with_reducible apply Kd.C_drewN) | (with_reducible apply Kd.C_drew))); (case side4 => exact HC1_5.out); rintro e w' ⟨rfl, ⟨nd, rfl⟩⟩; (try first | exact ⟨rfl, _, World.drewN_drewN _ _ _⟩ | exact ⟨rfl, _, Eq.trans (World.drewN_drewN _ _ _) (congrArg (World.drewN _) (Nat.add_assoc _ _ _))⟩)))
             as_aux_lemma =>
             have tk_ : True := trivial
             go_wp2_with (first | ((with_reducible refine gate_load (T := 26) rfl ?_); refine load_row_event (by first | rfl | (go_simp; done)) 26 _ rfl gb149 rfl 26 _ (0, 0) _ (by (with_reducible repeat (first | refine blk_drewN ?_ _ | refine blk_drew ?_ | refine blk_alloc ?_ _)); first | with_reducible exact BK149.out | with_reducible exact (blk_far BK149.out NB149_150.out _) | with_reducible exact (blk_far (blk_far BK149.out NB149_150.out _) NB149_150.out _) | with_reducible exact (blk_far (blk_far (blk_far BK149.out NB149_150.out _) NB149_150.out _) NB149_150.out _)) hu26 rfl (by kernel_rfl) ?_) | ((with_reducible refine gate_load (T := 26) rfl ?_); refine load_row_event (by first | rfl | (go_simp; done)) 26 _ rfl gb150 rfl 26 _ (0, 0) _ (by (with_reducible repeat (first | refine blk_drewN ?_ _ | refine blk_drew ?_ | refine blk_alloc ?_ _)); first | with_reducible exact BK150.out | with_reducible exact (blk_far BK150.out NB150_149.out _) | with_reducible exact (blk_far (blk_far BK150.out NB150_149.out _) NB150_149.out _) | with_reducible exact (blk_far (blk_far (blk_far BK150.out NB150_149.out _) NB150_149.out _) NB150_149.out _)) hu26 rfl (by kernel_rfl) ?_) | ((with_reducible refine gate_store (t := 26) rfl ?_); refine store_row_event (base := w.heap.size) rfl rfl 26 _ _ rfl (g := gb149) (by rfl) (by rfl) (by (with_reducible repeat (first | refine blk_drewN ?_ _ | refine blk_drew ?_ | refine blk_alloc ?_ _)); exact BK149.out) (by kernel_rfl) (by rfl) (by rfl) GE149.out ?_; intro ws_ hs_ hk_ hb_; have n0_ := Aside0.mk (Below.trans (by repeat (first | (with_reducible first | exact HB.out | apply below_alloc | apply pw_below_drewN | apply below_drew1) | exact HB.out)) hb_); clear HB; have HB := n0_; clear n0_; clear BK149; have BK149 := Aside0.mk hs_; clear hs_; (try (have z_ := Aside0.mk (blk_else BK150.out NB150_149.out hk_); clear BK150; have BK150 := z_; clear z_)); (try (have z_ := Aside0.mk (blk_else BK150.out NB150_149.out hk_); clear BK150; have BK150 := z_; clear z_)); (try (have z_ := Aside0.mk (blk_else BK150.out NB150_149.out hk_); clear BK150; have BK150 := z_; clear z_)); have hxs_ := blk_cell BK149.out; have hys_ := blk_frozen BK149.out; clear hk_ hb_) | ((with_reducible refine gate_store (t := 26) rfl ?_); refine store_row_event (base := w.heap.size) rfl rfl 26 _ _ rfl (g := gb150) (by rfl) (by rfl) (by (with_reducible repeat (first | refine blk_drewN ?_ _ | refine blk_drew ?_ | refine blk_alloc ?_ _)); exact BK150.out) (by kernel_rfl) (by rfl) (by rfl) GE150.out ?_; intro ws_ hs_ hk_ hb_; have n0_ := Aside0.mk (Below.trans (by repeat (first | (with_reducible first | exact HB.out | apply below_alloc | apply pw_below_drewN | apply below_drew1) | exact HB.out)) hb_); clear HB; have HB := n0_; clear n0_; clear BK150; have BK150 := Aside0.mk hs_; clear hs_; (try (have z_ := Aside0.mk (blk_else BK149.out NB149_150.out hk_); clear BK149; have BK149 := z_; clear z_)); (try (have z_ := Aside0.mk (blk_else BK149.out NB149_150.out hk_); clear BK149; have BK149 := z_; clear z_)); (try (have z_ := Aside0.mk (blk_else BK149.out NB149_150.out hk_); clear BK149; have BK149 := z_; clear z_)); have hxs_ := blk_cell BK150.out; have hys_ := blk_frozen BK150.out; clear hk_ hb_) | (go_at_call 43; clear tk_; (with_reducible refine (compositorref04_Same.calls k3 _ _ l0_6 _ _ l1_6 false _ ?side1 ?side2 ?side3 ?side4 A52.out).mono ?_); (case side1 => repeat (first | exact (Kd.C_below HR0_6.out (by repeat (first | (with_reducible first | exact HB.out | apply below_alloc | apply pw_below_drewN | apply below_drew1 | refine below_set ?_ GE149.out | refine below_set ?_ GE150.out) | exact HB.out))) | (with_reducible apply Kd.C_alloc) | (with_reducible apply Kd.C_drewN) | (with_reducible apply Kd.C_drew))); (case side2 => exact HC0_6.out); (case side3 => repeat (first | exact (Kd.C_below HR1_6.out (by repeat (first | (with_reducible first | exact HB.out | apply below_alloc | apply pw_below_drewN | apply below_drew1 | refine below_set ?_ GE149.out | refine below_set ?_ GE150.out) | exact HB.out))) | (with_reducible apply Kd.C_alloc) | (with_reducible apply Kd.C_drewN) | (with_reducible apply Kd.C_drew))); (case side4 => exact HC1_6.out); rintro e w' ⟨rfl, ⟨nd, rfl⟩⟩; (try first | exact ⟨rfl, _, World.drewN_drewN _ _ _⟩ | exact ⟨rfl, _, Eq.trans (World.drewN_drewN _ _ _) (congrArg (World.drewN _) (Nat.add_assoc _ _ _))⟩)))
             repeat (go_quiet (first | (go_at_call 43; (with_reducible refine (compositorref04_Same.calls k3 _ _ l0_4 _ _ l1_4 true _ ?side1 ?side2 ?side3 ?side4 A48.out).mono ?_); (case side1 => repeat (first | exact (Kd.C_below HR0_4.out HB.out) | (with_reducible apply Kd.C_alloc) | (with_reducible apply Kd.C_drewN) | (with_reducible apply Kd.C_drew))); (case side2 => exact HC0_4.out); (case side3 => repeat (first | exact (Kd.C_below HR1_4.out HB.out) | (with_reducible apply Kd.C_alloc) | (with_reducible apply Kd.C_drewN) | (with_reducible apply Kd.C_drew))); (case side4 => exact HC1_4.out); rintro e w' ⟨rfl, ⟨nd, rfl⟩⟩; (try first | exact ⟨rfl, _, World.drewN_drewN _ _ _⟩ | exact ⟨rfl, _, Eq.trans (World.drewN_drewN _ _ _) (congrArg (World.drewN _) (Nat.add_assoc _ _ _))⟩)) | (go_at_call 43; (with_reducible refine (compositorref04_Same.calls k3 _ _ l0_5 _ _ l1_5 true _ ?side1 ?side2 ?side3 ?side4 A50.out).mono ?_); (case side1 => repeat (first | exact (Kd.C_below HR0_5.out (by repeat (first | (with_reducible first | exact HB.out | apply below_alloc | apply pw_below_drewN | apply below_drew1 | refine below_set ?_ GE149.out | refine below_set ?_ GE150.out) | exact HB.out))) | (with_reducible apply Kd.C_alloc) | (with_reducible apply Kd.C_drewN) | (with_reducible apply Kd.C_drew))); (case side2 => exact HC0_5.out); (case side3 => repeat (first | exact (Kd.C_below HR1_5.out (by repeat (first | (with_reducible first | exact HB.out | apply below_alloc | apply pw_below_drewN | apply below_drew1 | refine below_set ?_ GE149.out | refine below_set ?_ GE150.out) | exact HB.out))) | (with_reducible apply Kd.C_alloc) | (with_reducible apply Kd.C_drewN) | (with_reducible apply Kd.C_drew))); (case side4 => exact HC1_5.out); rintro e w' ⟨rfl, ⟨nd, rfl⟩⟩; (try first | exact ⟨rfl, _, World.drewN_drewN _ _ _⟩ | exact ⟨rfl, _, Eq.trans (World.drewN_drewN _ _ _) (congrArg (World.drewN _) (Nat.add_assoc _ _ _))⟩)) | (go_at_call 43; (with_reducible refine (compositorref04_Same.calls k3 _ _ l0_6 _ _ l1_6 false _ ?side1 ?side2 ?side3 ?side4 A52.out).mono ?_); (case side1 => repeat (first | exact (Kd.C_below HR0_6.out (by repeat (first | (with_reducible first | exact HB.out | apply below_alloc | apply pw_below_drewN | apply below_drew1 | refine below_set ?_ GE149.out | refine below_set ?_ GE150.out) | exact HB.out))) | (with_reducible apply Kd.C_alloc) | (with_reducible apply Kd.C_drewN) | (with_reducible apply Kd.C_drew))); (case side2 => exact HC0_6.out); (case side3 => repeat (first | exact (Kd.C_below HR1_6.out (by repeat (first | (with_reducible first | exact HB.out | apply below_alloc | apply pw_below_drewN | apply below_drew1 | refine below_set ?_ GE149.out | refine below_set ?_ GE150.out) | exact HB.out))) | (with_reducible apply Kd.C_alloc) | (with_reducible apply Kd.C_drewN) | (with_reducible apply Kd.C_drew))); (case side4 => exact HC1_6.out); rintro e w' ⟨rfl, ⟨nd, rfl⟩⟩; (try first | exact ⟨rfl, _, World.drewN_drewN _ _ _⟩ | exact ⟨rfl, _, Eq.trans (World.drewN_drewN _ _ _) (congrArg (World.drewN _) (Nat.add_assoc _ _ _))⟩))); try go_wp2_with (first | ((with_reducible refine gate_load (T := 26) rfl ?_); refine load_row_event (by first | rfl | (go_simp; done)) 26 _ rfl gb149 rfl 26 _ (0, 0) _ (by (with_reducible repeat (first | refine blk_drewN ?_ _ | refine blk_drew ?_ | refine blk_alloc ?_ _)); first | with_reducible exact BK149.out | with_reducible exact (blk_far BK149.out NB149_150.out _) | with_reducible exact (blk_far (blk_far BK149.out NB149_150.out _) NB149_150.out _) | with_reducible exact (blk_far (blk_far (blk_far BK149.out NB149_150.out _) NB149_150.out _) NB149_150.out _)) hu26 rfl (by kernel_rfl) ?_) | ((with_reducible refine gate_load (T := 26) rfl ?_); refine load_row_event (by first | rfl | (go_simp; done)) 26 _ rfl gb150 rfl 26 _ (0, 0) _ (by (with_reducible repeat (first | refine blk_drewN ?_ _ | refine blk_drew ?_ | refine blk_alloc ?_ _)); first | with_reducible exact BK150.out | with_reducible exact (blk_far BK150.out NB150_149.out _) | with_reducible exact (blk_far (blk_far BK150.out NB150_149.out _) NB150_149.out _) | with_reducible exact (blk_far (blk_far (blk_far BK150.out NB150_149.out _) NB150_149.out _) NB150_149.out _)) hu26 rfl (by kernel_rfl) ?_) | ((with_reducible refine gate_store (t := 26) rfl ?_); refine store_row_event (base := w.heap.size) rfl rfl 26 _ _ rfl (g := gb149) (by rfl) (by rfl) (by (with_reducible repeat (first | refine blk_drewN ?_ _ | refine blk_drew ?_ | refine blk_alloc ?_ _)); exact BK149.out) (by kernel_rfl) (by rfl) (by rfl) GE149.out ?_; intro ws_ hs_ hk_ hb_; have n0_ := Aside0.mk (Below.trans (by repeat (first | (with_reducible first | exact HB.out | apply below_alloc | apply pw_below_drewN | apply below_drew1) | exact HB.out)) hb_); clear HB; have HB := n0_; clear n0_; clear BK149; have BK149 := Aside0.mk hs_; clear hs_; (try (have z_ := Aside0.mk (blk_else BK150.out NB150_149.out hk_); clear BK150; have BK150 := z_; clear z_)); (try (have z_ := Aside0.mk (blk_else BK150.out NB150_149.out hk_); clear BK150; have BK150 := z_; clear z_)); (try (have z_ := Aside0.mk (blk_else BK150.out NB150_149.out hk_); clear BK150; have BK150 := z_; clear z_)); have hxs_ := blk_cell BK149.out; have hys_ := blk_frozen BK149.out; clear hk_ hb_) | ((with_reducible refine gate_store (t := 26) rfl ?_); refine store_row_event (base := w.heap.size) rfl rfl 26 _ _ rfl (g := gb150) (by rfl) (by rfl) (by (with_reducible repeat (first | refine blk_drewN ?_ _ | refine blk_drew ?_ | refine blk_alloc ?_ _)); exact BK150.out) (by kernel_rfl) (by rfl) (by rfl) GE150.out ?_; intro ws_ hs_ hk_ hb_; have n0_ := Aside0.mk (Below.trans (by repeat (first | (with_reducible first | exact HB.out | apply below_alloc | apply pw_below_drewN | apply below_drew1) | exact HB.out)) hb_); clear HB; have HB := n0_; clear n0_; clear BK150; have BK150 := Aside0.mk hs_; clear hs_; (try (have z_ := Aside0.mk (blk_else BK149.out NB149_150.out hk_); clear BK149; have BK149 := z_; clear z_)); (try (have z_ := Aside0.mk (blk_else BK149.out NB149_150.out hk_); clear BK149; have BK149 := z_; clear z_)); (try (have z_ := Aside0.mk (blk_else BK149.out NB149_150.out hk_); clear BK149; have BK149 := z_; clear z_)); have hxs_ := blk_cell BK150.out; have hys_ := blk_frozen BK150.out; clear hk_ hb_) | (go_at_call 43; (with_reducible refine (compositorref04_Same.calls k3 _ _ l0_4 _ _ l1_4 true _ ?side1 ?side2 ?side3 ?side4 A48.out).mono ?_); (case side1 => repeat (first | exact (Kd.C_below HR0_4.out HB.out) | (with_reducible apply Kd.C_alloc) | (with_reducible apply Kd.C_drewN) | (with_reducible apply Kd.C_drew))); (case side2 => exact HC0_4.out); (case side3 => repeat (first | exact (Kd.C_below HR1_4.out HB.out) | (with_reducible apply Kd.C_alloc) | (with_reducible apply Kd.C_drewN) | (with_reducible apply Kd.C_drew))); (case side4 => exact HC1_4.out); rintro e w' ⟨rfl, ⟨nd, rfl⟩⟩; (try first | exact ⟨rfl, _, World.drewN_drewN _ _ _⟩ | exact ⟨rfl, _, Eq.trans (World.drewN_drewN _ _ _) (congrArg (World.drewN _) (Nat.add_assoc _ _ _))⟩)) | (go_at_call 43; (with_reducible refine (compositorref04_Same.calls k3 _ _ l0_5 _ _ l1_5 true _ ?side1 ?side2 ?side3 ?side4 A50.out).mono ?_); (case side1 => repeat (first | exact (Kd.C_below HR0_5.out (by repeat (first | (with_reducible first | exact HB.out | apply below_alloc | apply pw_below_drewN | apply below_drew1 | refine below_set ?_ GE149.out | refine below_set ?_ GE150.out) | exact HB.out))) | (with_reducible apply Kd.C_alloc) | (with_reducible apply Kd.C_drewN) | (with_reducible apply Kd.C_drew))); (case side2 => exact HC0_5.out); (case side3 => repeat (first | exact (Kd.C_below HR1_5.out (by repeat (first | (with_reducible first | exact HB.out | apply below_alloc | apply pw_below_drewN | apply below_drew1 | refine below_set ?_ GE149.out | refine below_set ?_ GE150.out) | exact HB.out))) | (with_reducible apply Kd.C_alloc) | (with_reducible apply Kd.C_drewN) | (with_reducible apply Kd.C_drew))); (case side4 => exact HC1_5.out); rintro e w' ⟨rfl, ⟨nd, rfl⟩⟩; (try first | exact ⟨rfl, _, World.drewN_drewN _ _ _⟩ | exact ⟨rfl, _, Eq.trans (World.drewN_drewN _ _ _) (congrArg (World.drewN _) (Nat.add_assoc _ _ _))⟩)) | (go_at_call 43; (with_reducible refine (compositorref04_Same.calls k3 _ _ l0_6 _ _ l1_6 false _ ?side1 ?side2 ?side3 ?side4 A52.out).mono ?_); (case side1 => repeat (first | exact (Kd.C_below HR0_6.out (by repeat (first | (with_reducible first | exact HB.out | apply below_alloc | apply pw_below_drewN | apply below_drew1 | refine below_set ?_ GE149.out | refine below_set ?_ GE150.out) | exact HB.out))) | (with_reducible apply Kd.C_alloc) | (with_reducible apply Kd.C_drewN) | (with_reducible apply Kd.C_drew))); (case side2 => exact HC0_6.out); (case side3 => repeat (first | exact (Kd.C_below HR1_6.out (by repeat (first | (with_reducible first | exact HB.out | apply below_alloc | apply pw_below_drewN | apply below_drew1 | refine below_set ?_ GE149.out | refine below_set ?_ GE150.out) | exact HB.out))) | (with_reducible apply Kd.C_alloc) | (with_reducible apply Kd.C_drewN) | (with_reducible apply Kd.C_drew))); (case side4 => exact HC1_6.out); rintro e w' ⟨rfl, ⟨nd, rfl⟩⟩; (try first | exact ⟨rfl, _, World.drewN_drewN _ _ _⟩ | exact ⟨rfl, _, Eq.trans (World.drewN_drewN _ _ _) (congrArg (World.drewN _) (Nat.add_assoc _ _ _))⟩))))
             go_ret
             exact ⟨by first | rfl | (simp [errW_none, errW_some] <;> rfl) | (simp [*, errW_none, errW_some] <;> rfl), by repeat (first | (with_reducible first | exact HB.out | apply below_alloc | apply pw_below_drewN | apply below_drew1 | refine below_set ?_ GE149.out | refine below_set ?_ GE150.out) | exact HB.out)⟩
           ·replace c51 := Bool.eq_false_iff.mpr c51
            subst c51
            have H1 : (some false) = some r := by rw [if_neg (show ¬ (false = true) by decide)] at H; exact H
            clear H
            have H := H1
            clear H1
            obtain rfl := Option.some.inj H
            have hnb71 := NB149_150.out
            have hnc71 := NB150_149.out
            have hcz72_0 := blk_cell BK149.out
            have hfz72_0 := blk_frozen BK149.out
            have hcz73_0 := blk_cell BK150.out
            have hfz73_0 := blk_frozen BK150.out
            have tk_ : True := trivial
            go_wp2_with (first | ((with_reducible refine gate_load (T := 26) rfl ?_); refine load_row_event (by first | rfl | (go_simp; done)) 26 _ rfl gb149 rfl 26 _ (0, 0) _ (by (with_reducible repeat (first | refine blk_drewN ?_ _ | refine blk_drew ?_ | refine blk_alloc ?_ _)); first | with_reducible exact BK149.out | with_reducible exact (blk_far BK149.out NB149_150.out _) | with_reducible exact (blk_far (blk_far BK149.out NB149_150.out _) NB149_150.out _) | with_reducible exact (blk_far (blk_far (blk_far BK149.out NB149_150.out _) NB149_150.out _) NB149_150.out _)) hu26 rfl (by kernel_rfl) ?_) | ((with_reducible refine gate_load (T := 26) rfl ?_); refine load_row_event (by first | rfl | (go_simp; done)) 26 _ rfl gb150 rfl 26 _ (0, 0) _ (by (with_reducible repeat (first | refine blk_drewN ?_ _ | refine blk_drew ?_ | refine blk_alloc ?_ _)); first | with_reducible exact BK150.out | with_reducible exact (blk_far BK150.out NB150_149.out _) | with_reducible exact (blk_far (blk_far BK150.out NB150_149.out _) NB150_149.out _) | with_reducible exact (blk_far (blk_far (blk_far BK150.out NB150_149.out _) NB150_149.out _) NB150_149.out _)) hu26 rfl (by kernel_rfl) ?_) | ((with_reducible refine gate_store (t := 26) rfl ?_); refine store_row_event (base := w.heap.size) rfl rfl 26 _ _ rfl (g := gb149) (by rfl) (by rfl) (by (with_reducible repeat (first | refine blk_drewN ?_ _ | refine blk_drew ?_ | refine blk_alloc ?_ _)); exact BK149.out) (by kernel_rfl) (by rfl) (by rfl) GE149.out ?_; intro ws_ hs_ hk_ hb_; have n0_ := Aside0.mk (Below.trans (by repeat (first | (with_reducible first | exact HB.out | apply below_alloc | apply pw_below_drewN | apply below_drew1) | exact HB.out)) hb_); clear HB; have HB := n0_; clear n0_; clear BK149; have BK149 := Aside0.mk hs_; clear hs_; (try (have z_ := Aside0.mk (blk_else BK150.out NB150_149.out hk_); clear BK150; have BK150 := z_; clear z_)); (try (have z_ := Aside0.mk (blk_else BK150.out NB150_149.out hk_); clear BK150; have BK150 := z_; clear z_)); (try (have z_ := Aside0.mk (blk_else BK150.out NB150_149.out hk_); clear BK150; have BK150 := z_; clear z_)); have hxs_ := blk_cell BK149.out; have hys_ := blk_frozen BK149.out; clear hk_ hb_) | ((with_reducible refine gate_store (t := 26) rfl ?_); refine store_row_event (base := w.heap.size) rfl rfl 26 _ _ rfl (g := gb150) (by rfl) (by rfl) (by (with_reducible repeat (first | refine blk_drewN ?_ _ | refine blk_drew ?_ | refine blk_alloc ?_ _)); exact BK150.out) (by kernel_rfl) (by rfl) (by rfl) GE150.out ?_; intro ws_ hs_ hk_ hb_; have n0_ := Aside0.mk (Below.trans (by repeat (first | (with_reducible first | exact HB.out | apply below_alloc | apply pw_below_drewN | apply below_drew1) | exact HB.out)) hb_); clear HB; have HB := n0_; clear n0_; clear BK150; have BK150 := Aside0.mk hs_; clear hs_; (try (have z_ := Aside0.mk (blk_else BK149.out NB149_150.out hk_); clear BK149; have BK149 := z_; clear z_)); (try (have z_ := Aside0.mk (blk_else BK149.out NB149_150.out hk_); clear BK149; have BK149 := z_; clear z_)); (try (have z_ := Aside0.mk (blk_else BK149.out NB149_150.out hk_); clear BK149; have BK149 := z_; clear z_)); have hxs_ := blk_cell BK150.out; have hys_ := blk_frozen BK150.out; clear hk_ hb_) | (go_at_call 43; clear tk_; (with_reducible refine (compositorref04_Same.calls k3 _ _ l0_4 _ _ l1_4 true _ ?side1 ?side2 ?side3 ?side4 A48.out).mono ?_); (case side1 => repeat (first | exact (Kd.C_below HR0_4.out HB.out) | (with_reducible apply Kd.C_alloc) | (with_reducible apply Kd.C_drewN) | (with_reducible apply Kd.C_drew))); (case side2 => exact HC0_4.out); (case side3 => repeat (first | exact (Kd.C_below HR1_4.out HB.out) | (with_reducible apply Kd.C_alloc) | (with_reducible apply Kd.C_drewN) | (with_reducible apply Kd.C_drew))); (case side4 => exact HC1_4.out); rintro e w' ⟨rfl, ⟨nd, rfl⟩⟩; (try first | exact ⟨rfl, _, World.drewN_drewN _ _ _⟩ | exact ⟨rfl, _, Eq.trans (World.drewN_drewN _ _ _) (congrArg (World.drewN _) (Nat.add_assoc _ _ _))⟩)))
            as_aux_lemma =>
            have tk_ : True := trivial
            go_wp2_with (first | ((with_reducible refine gate_load (T := 26) rfl ?_); refine load_row_event (by first | rfl | (go_simp; done)) 26 _ rfl gb149 rfl 26 _ (0, 0) _ (by (with_reducible repeat (first | refine blk_drewN ?_ _ | refine blk_drew ?_ | refine blk_alloc ?_ _)); first | with_reducible exact BK149.out | with_reducible exact (blk_far BK149.out NB149_150.out _) | with_reducible exact (blk_far (blk_far BK149.out NB149_150.out _) NB149_150.out _) | with_reducible exact (blk_far (blk_far (blk_far BK149.out NB149_150.out _) NB149_150.out _) NB149_150.out _)) hu26 rfl (by kernel_rfl) ?_) | ((with_reducible refine gate_load (T := 26) rfl ?_); refine load_row_event (by first | rfl | (go_simp; done)) 26 _ rfl gb150 rfl 26 _ (0, 0) _ (by (with_reducible repeat (first | refine blk_drewN ?_ _ | refine blk_drew ?_ | refine blk_alloc ?_ _)); first | with_reducible exact BK150.out | with_reducible exact (blk_far BK150.out NB150_149.out _) | with_reducible exact (blk_far (blk_far BK150.out NB150_149.out _) NB150_149.out _) | with_reducible exact (blk_far (blk_far (blk_far BK150.out NB150_149.out _) NB150_149.out _) NB150_149.out _)) hu26 rfl (by kernel_rfl) ?_) | ((with_reducible refine gate_store (t := 26) rfl ?_); refine store_row_event (base := w.heap.size) rfl rfl 26 _ _ rfl (g := gb149) (by rfl) (by rfl) (by (with_reducible repeat (first | refine blk_drewN ?_ _ | refine blk_drew ?_ | refine blk_alloc ?_ _)); exact BK149.out) (by kernel_rfl) (by rfl) (by rfl) GE149.out ?_; intro ws_ hs_ hk_ hb_; have n0_ := Aside0.mk (Below.trans (by repeat (first | (with_reducible first | exact HB.out | apply below_alloc | apply pw_below_drewN | apply below_drew1) | exact HB.out)) hb_); clear HB; have HB := n0_; clear n0_; clear BK149; have BK149 := Aside0.mk hs_; clear hs_; (try (have z_ := Aside0.mk (blk_else BK150.out NB150_149.out hk_); clear BK150; have BK150 := z_; clear z_)); (try (have z_ := Aside0.mk (blk_else BK150.out NB150_149.out hk_); clear BK150; have BK150 := z_; clear z_)); (try (have z_ := Aside0.mk (blk_else BK150.out NB150_149.out hk_); clear BK150; have BK150 := z_; clear z_)); have hxs_ := blk_cell BK149.out; have hys_ := blk_frozen BK149.out; clear hk_ hb_) | ((with_reducible refine gate_store (t := 26) rfl ?_); refine store_row_event (base := w.heap.size) rfl rfl 26 _ _ rfl (g := gb150) (by rfl) (by rfl) (by (with_reducible repeat (first | refine blk_drewN ?_ _ | refine blk_drew ?_ | refine blk_alloc ?_ _)); exact BK150.out) (by kernel_rfl) (by rfl) (by rfl) GE150.out ?_; intro ws_ hs_ hk_ hb_; have n0_ := Aside0.mk (Below.trans (by repeat (first | (with_reducible first | exact HB.out | apply below_alloc | apply pw_below_drewN | apply below_drew1) | exact HB.out)) hb_); clear HB; have HB := n0_; clear n0_; clear BK150; have BK150 := Aside0.mk hs_; clear hs_; (try (have z_ := Aside0.mk (blk_else BK149.out NB149_150.out hk_); clear BK149; have BK149 := z_; clear z_)); (try (have z_ := Aside0.mk (blk_else BK149.out NB149_150.out hk_); clear BK149; have BK149 := z_; clear z_)); (try (have z_ := Aside0.mk (blk_else BK149.out NB149_150.out hk_); clear BK149; have BK149 := z_; clear z_)); have hxs_ := blk_cell BK150.out; have hys_ := blk_frozen BK150.out; clear hk_ hb_) | (go_at_call 43; clear tk_; (with_reducible refine (compositorref04_Same.calls k3 _ _ l0_5 _ _ l1_5 false _ ?side1 ?side2 ?side3 ?side4 A50.out).mono ?_); (case side1 => repeat (first | exact (Kd.C_below HR0_5.out (by repeat (first | (with_reducible first | exact HB.out | apply below_alloc | apply pw_below_drewN | apply below_drew1 | refine below_set ?_ GE149.out | refine below_set ?_ GE150.out) | exact HB.out))) | (with_reducible apply Kd.C_alloc) | (with_reducible apply Kd.C_drewN) | (with_reducible apply Kd.C_drew))); (case side2 => exact HC0_5.out); (case side3 => repeat (first | exact (Kd.C_below HR1_5.out (by repeat (first | (with_reducible first | exact HB.out | apply below_alloc | apply pw_below_drewN | apply below_drew1 | refine below_set ?_ GE149.out | refine below_set ?_ GE150.out) | exact HB.out))) | (with_reducible apply Kd.C_alloc) | (with_reducible apply Kd.C_drewN) | (with_reducible apply Kd.C_drew))); (case side4 => exact HC1_5.out); rintro e w' ⟨rfl, ⟨nd, rfl⟩⟩; (try first | exact ⟨rfl, _, World.drewN_drewN _ _ _⟩ | exact ⟨rfl, _, Eq.trans (World.drewN_drewN _ _ _) (congrArg (World.drewN _) (Nat.add_assoc _ _ _))⟩)))
            repeat (go_quiet (first | (go_at_call 43; (with_reducible refine (compositorref04_Same.calls k3 _ _ l0_4 _ _ l1_4 true _ ?side1 ?side2 ?side3 ?side4 A48.out).mono ?_); (case side1 => repeat (first | exact (Kd.C_below HR0_4.out HB.out) | (with_reducible apply Kd.C_alloc) | (with_reducible apply Kd.C_drewN) | (with_reducible apply Kd.C_drew))); (case side2 => exact HC0_4.out); (case side3 => repeat (first | exact (Kd.C_below HR1_4.out HB.out) | (with_reducible apply Kd.C_alloc) | (with_reducible apply Kd.C_drewN) | (with_reducible apply Kd.C_drew))); (case side4 => exact HC1_4.out); rintro e w' ⟨rfl, ⟨nd, rfl⟩⟩; (try first | exact ⟨rfl, _, World.drewN_drewN _ _ _⟩ | exact ⟨rfl, _, Eq.trans (World.drewN_drewN _ _ _) (congrArg (World.drewN _) (Nat.add_assoc _ _ _))⟩)) | (go_at_call 43; (with_reducible refine (compositorref04_Same.calls k3 _ _ l0_5 _ _ l1_5 false _ ?side1 ?side2 ?side3 ?side4 A50.out).mono ?_); (case side1 => repeat (first | exact (Kd.C_below HR0_5.out (by repeat (first | (with_reducible first | exact HB.out | apply below_alloc | apply pw_below_drewN | apply below_drew1 | refine below_set ?_ GE149.out | refine below_set ?_ GE150.out) | exact HB.out))) | (with_reducible apply Kd.C_alloc) | (with_reducible apply Kd.C_drewN) | (with_reducible apply Kd.C_drew))); (case side2 => exact HC0_5.out); (case side3 => repeat (first | exact (Kd.C_below HR1_5.out (by repeat (first | (with_reducible first | exact HB.out | apply below_alloc | apply pw_below_drewN | apply below_drew1 | refine below_set ?_ GE149.out | refine below_set ?_ GE150.out) | exact HB.out))) | (with_reducible apply Kd.C_alloc) | (with_reducible apply Kd.C_drewN) | (with_reducible apply Kd.C_drew))); (case side4 => exact HC1_5.out); rintro e w' ⟨rfl, ⟨nd, rfl⟩⟩; (try first | exact ⟨rfl, _, World.drewN_drewN _ _ _⟩ | exact ⟨rfl, _, Eq.trans (World.drewN_drewN _ _ _) (congrArg (World.drewN _) (Nat.add_assoc _ _ _))⟩))); try go_wp2_with (first | ((with_reducible refine gate_load (T := 26) rfl ?_); refine load_row_event (by first | rfl | (go_simp; done)) 26 _ rfl gb149 rfl 26 _ (0, 0) _ (by (with_reducible repeat (first | refine blk_drewN ?_ _ | refine blk_drew ?_ | refine blk_alloc ?_ _)); first | with_reducible exact BK149.out | with_reducible exact (blk_far BK149.out NB149_150.out _) | with_reducible exact (blk_far (blk_far BK149.out NB149_150.out _) NB149_150.out _) | with_reducible exact (blk_far (blk_far (blk_far BK149.out NB149_150.out _) NB149_150.out _) NB149_150.out _)) hu26 rfl (by kernel_rfl) ?_) | ((with_reducible refine gate_load (T := 26) rfl ?_); refine load_row_event (by first | rfl | (go_simp; done)) 26 _ rfl gb150 rfl 26 _ (0, 0) _ (by (with_reducible repeat (first | refine blk_drewN ?_ _ | refine blk_drew ?_ | refine blk_alloc ?_ _)); first | with_reducible exact BK150.out | with_reducible exact (blk_far BK150.out NB150_149.out _) | with_reducible exact (blk_far (blk_far BK150.out NB150_149.out _) NB150_149.out _) | with_reducible exact (blk_far (blk_far (blk_far BK150.out NB150_149.out _) NB150_149.out _) NB150_149.out _)) hu26 rfl (by kernel_rfl) ?_) | ((with_reducible refine gate_store (t := 26) rfl ?_); refine store_row_event (base := w.heap.size) rfl rfl 26 _ _ rfl (g := gb149) (by rfl) (by rfl) (by (with_reducible repeat (first | refine blk_drewN ?_ _ | refine blk_drew ?_ | refine blk_alloc ?_ _)); exact BK149.out) (by kernel_rfl) (by rfl) (by rfl) GE149.out ?_; intro ws_ hs_ hk_ hb_; have n0_ := Aside0.mk (Below.trans (by repeat (first | (with_reducible first | exact HB.out | apply below_alloc | apply pw_below_drewN | apply below_drew1) | exact HB.out)) hb_); clear HB; have HB := n0_; clear n0_; clear BK149; have BK149 := Aside0.mk hs_; clear hs_; (try (have z_ := Aside0.mk (blk_else BK150.out NB150_149.out hk_); clear BK150; have BK150 := z_; clear z_)); (try (have z_ := Aside0.mk (blk_else BK150.out NB150_149.out hk_); clear BK150; have BK150 := z_; clear z_)); (try (have z_ := Aside0.mk (blk_else BK150.out NB150_149.out hk_); clear BK150; have BK150 := z_; clear z_)); have hxs_ := blk_cell BK149.out; have hys_ := blk_frozen BK149.out; clear hk_ hb_) | ((with_reducible refine gate_store (t := 26) rfl ?_); refine store_row_event (base := w.heap.size) rfl rfl 26 _ _ rfl (g := gb150) (by rfl) (by rfl) (by (with_reducible repeat (first | refine blk_drewN ?_ _ | refine blk_drew ?_ | refine blk_alloc ?_ _)); exact BK150.out) (by kernel_rfl) (by rfl) (by rfl) GE150.out ?_; intro ws_ hs_ hk_ hb_; have n0_ := Aside0.mk (Below.trans (by repeat (first | (with_reducible first | exact HB.out | apply below_alloc | apply pw_below_drewN | apply below_drew1) | exact HB.out)) hb_); clear HB; have HB := n0_; clear n0_; clear BK150; have BK150 := Aside0.mk hs_; clear hs_; (try (have z_ := Aside0.mk (blk_else BK149.out NB149_150.out hk_); clear BK149; have BK149 := z_; clear z_)); (try (have z_ := Aside0.mk (blk_else BK149.out NB149_150.out hk_); clear BK149; have BK149 := z_; clear z_)); (try (have z_ := Aside0.mk (blk_else BK149.out NB149_150.out hk_); clear BK149; have BK149 := z_; clear z_)); have hxs_ := blk_cell BK150.out; have hys_ := blk_frozen BK150.out; clear hk_ hb_) | (go_at_call 43; (with_reducible refine (compositorref04_Same.calls k3 _ _ l0_4 _ _ l1_4 true _ ?side1 ?side2 ?side3 ?side4 A48.out).mono ?_); (case side1 => repeat (first | exact (Kd.C_below HR0_4.out HB.out) | (with_reducible apply Kd.C_alloc) | (with_reducible apply Kd.C_drewN) | (with_reducible apply Kd.C_drew))); (case side2 => exact HC0_4.out); (case side3 => repeat (first | exact (Kd.C_below HR1_4.out HB.out) | (with_reducible apply Kd.C_alloc) | (with_reducible apply Kd.C_drewN) | (with_reducible apply Kd.C_drew))); (case side4 => exact HC1_4.out); rintro e w' ⟨rfl, ⟨nd, rfl⟩⟩; (try first | exact ⟨rfl, _, World.drewN_drewN _ _ _⟩ | exact ⟨rfl, _, Eq.trans (World.drewN_drewN _ _ _) (congrArg (World.drewN _) (Nat.add_assoc _ _ _))⟩)) | (go_at_call 43; (with_reducible refine (compositorref04_Same.calls k3 _ _ l0_5 _ _ l1_5 false _ ?side1 ?side2 ?side3 ?side4 A50.out).mono ?_); (case side1 => repeat (first | exact (Kd.C_below HR0_5.out (by repeat (first | (with_reducible first | exact HB.out | apply below_alloc | apply pw_below_drewN | apply below_drew1 | refine below_set ?_ GE149.out | refine below_set ?_ GE150.out) | exact HB.out))) | (with_reducible apply Kd.C_alloc) | (with_reducible apply Kd.C_drewN) | (with_reducible apply Kd.C_drew))); (case side2 => exact HC0_5.out); (case side3 => repeat (first | exact (Kd.C_below HR1_5.out (by repeat (first | (with_reducible first | exact HB.out | apply below_alloc | apply pw_below_drewN | apply below_drew1 | refine below_set ?_ GE149.out | refine below_set ?_ GE150.out) | exact HB.out))) | (with_reducible apply Kd.C_alloc) | (with_reducible apply Kd.C_drewN) | (with_reducible apply Kd.C_drew))); (case side4 => exact HC1_5.out); rintro e w' ⟨rfl, ⟨nd, rfl⟩⟩; (try first | exact ⟨rfl, _, World.drewN_drewN _ _ _⟩ | exact ⟨rfl, _, Eq.trans (World.drewN_drewN _ _ _) (congrArg (World.drewN _) (Nat.add_assoc _ _ _))⟩))))
            go_ret
            exact ⟨by first | rfl | (simp [errW_none, errW_some] <;> rfl) | (simp [*, errW_none, errW_some] <;> rfl), by repeat (first | (with_reducible first | exact HB.out | apply below_alloc | apply pw_below_drewN | apply below_drew1 | refine below_set ?_ GE149.out | refine below_set ?_ GE150.out) | exact HB.out)⟩
          ·replace c49 := Bool.eq_false_iff.mpr c49
           subst c49
           have H1 : (some false) = some r := by rw [if_neg (show ¬ (false = true) by decide)] at H; exact H
           clear H
           have H := H1
           clear H1
           obtain rfl := Option.some.inj H
           have hnb74 := NB149_150.out
           have hnc74 := NB150_149.out
           have hcz75_0 := blk_cell BK149.out
           have hfz75_0 := blk_frozen BK149.out
           have hcz76_0 := blk_cell BK150.out
           have hfz76_0 := blk_frozen BK150.out
           go_wp2_with (first | ((with_reducible refine gate_load (T := 26) rfl ?_); refine load_row_event (by first | rfl | (go_simp; done)) 26 _ rfl gb149 rfl 26 _ (0, 0) _ (by (with_reducible repeat (first | refine blk_drewN ?_ _ | refine blk_drew ?_ | refine blk_alloc ?_ _)); first | with_reducible exact BK149.out | with_reducible exact (blk_far BK149.out NB149_150.out _) | with_reducible exact (blk_far (blk_far BK149.out NB149_150.out _) NB149_150.out _) | with_reducible exact (blk_far (blk_far (blk_far BK149.out NB149_150.out _) NB149_150.out _) NB149_150.out _)) hu26 rfl (by kernel_rfl) ?_) | ((with_reducible refine gate_load (T := 26) rfl ?_); refine load_row_event (by first | rfl | (go_simp; done)) 26 _ rfl gb150 rfl 26 _ (0, 0) _ (by (with_reducible repeat (first | refine blk_drewN ?_ _ | refine blk_drew ?_ | refine blk_alloc ?_ _)); first | with_reducible exact BK150.out | with_reducible exact (blk_far BK150.out NB150_149.out _) | with_reducible exact (blk_far (blk_far BK150.out NB150_149.out _) NB150_149.out _) | with_reducible exact (blk_far (blk_far (blk_far BK150.out NB150_149.out _) NB150_149.out _) NB150_149.out _)) hu26 rfl (by kernel_rfl) ?_) | ((with_reducible refine gate_store (t := 26) rfl ?_); refine store_row_event (base := w.heap.size) rfl rfl 26 _ _ rfl (g := gb149) (by rfl) (by rfl) (by (with_reducible repeat (first | refine blk_drewN ?_ _ | refine blk_drew ?_ | refine blk_alloc ?_ _)); exact BK149.out) (by kernel_rfl) (by rfl) (by rfl) GE149.out ?_; intro ws_ hs_ hk_ hb_; have n0_ := Aside0.mk (Below.trans (by repeat (first | (with_reducible first | exact HB.out | apply below_alloc | apply pw_below_drewN | apply below_drew1) | exact HB.out)) hb_); clear HB; have HB := n0_; clear n0_; clear BK149; have BK149 := Aside0.mk hs_; clear hs_; (try (have z_ := Aside0.mk (blk_else BK150.out NB150_149.out hk_); clear BK150; have BK150 := z_; clear z_)); (try (have z_ := Aside0.mk (blk_else BK150.out NB150_149.out hk_); clear BK150; have BK150 := z_; clear z_)); (try (have z_ := Aside0.mk (blk_else BK150.out NB150_149.out hk_); clear BK150; have BK150 := z_; clear z_)); have hxs_ := blk_cell BK149.out; have hys_ := blk_frozen BK149.out; clear hk_ hb_) | ((with_reducible refine gate_store (t := 26) rfl ?_); refine store_row_event (base := w.heap.size) rfl rfl 26 _ _ rfl (g := gb150) (by rfl) (by rfl) (by (with_reducible repeat (first | refine blk_drewN ?_ _ | refine blk_drew ?_ | refine blk_alloc ?_ _)); exact BK150.out) (by kernel_rfl) (by rfl) (by rfl) GE150.out ?_; intro ws_ hs_ hk_ hb_; have n0_ := Aside0.mk (Below.trans (by repeat (first | (with_reducible first | exact HB.out | apply below_alloc | apply pw_below_drewN | apply below_drew1) | exact HB.out)) hb_); clear HB; have HB := n0_; clear n0_; clear BK150; have BK150 := Aside0.mk hs_; clear hs_; (try (have z_ := Aside0.mk (blk_else BK149.out NB149_150.out hk_); clear BK149; have BK149 := z_; clear z_)); (try (have z_ := Aside0.mk (blk_else BK149.out NB149_150.out hk_); clear BK149; have BK149 := z_; clear z_)); (try (have z_ := Aside0.mk (blk_else BK149.out NB149_150.out hk_); clear BK149; have BK149 := z_; clear z_)); have hxs_ := blk_cell BK150.out; have hys_ := blk_frozen BK150.out; clear hk_ hb_) | (go_at_call 43; (with_reducible refine (compositorref04_Same.calls k3 _ _ l0_4 _ _ l1_4 false _ ?side1 ?side2 ?side3 ?side4 A48.out).mono ?_); (case side1 => repeat (first | exact (Kd.C_below HR0_4.out HB.out) | (with_reducible apply Kd.C_alloc) | (with_reducible apply Kd.C_drewN) | (with_reducible apply Kd.C_drew))); (case side2 => exact HC0_4.out); (case side3 => repeat (first | exact (Kd.C_below HR1_4.out HB.out) | (with_reducible apply Kd.C_alloc) | (with_reducible apply Kd.C_drewN) | (with_reducible apply Kd.C_drew))); (case side4 => exact HC1_4.out); rintro e w' ⟨rfl, ⟨nd, rfl⟩⟩; (try first | exact ⟨rfl, _, World.drewN_drewN _ _ _⟩ | exact ⟨rfl, _, Eq.trans (World.drewN_drewN _ _ _) (congrArg (World.drewN _) (Nat.add_assoc _ _ _))⟩)))
           repeat (go_quiet (first | (go_at_call 43; (with_reducible refine (compositorref04_Same.calls k3 _ _ l0_4 _ _ l1_4 false _ ?side1 ?side2 ?side3 ?side4 A48.out).mono ?_); (case side1 => repeat (first | exact (Kd.C_below HR0_4.out HB.out) | (with_reducible apply Kd.C_alloc) | (with_reducible apply Kd.C_drewN) | (with_reducible apply Kd.C_drew))); (case side2 => exact HC0_4.out); (case side3 => repeat (first | exact (Kd.C_below HR1_4.out HB.out) | (with_reducible apply Kd.C_alloc) | (with_reducible apply Kd.C_drewN) | (with_reducible apply Kd.C_drew))); (case side4 => exact HC1_4.out); rintro e w' ⟨rfl, ⟨nd, rfl⟩⟩; (try first | exact ⟨rfl, _, World.drewN_drewN _ _ _⟩ | exact ⟨rfl, _, Eq.trans (World.drewN_drewN _ _ _) (congrArg (World.drewN _) (Nat.add_assoc _ _ _))⟩))); try go_wp2_with (first | ((with_reducible refine gate_load (T := 26) rfl ?_); refine load_row_event (by first | rfl | (go_simp; done)) 26 _ rfl gb149 rfl 26 _ (0, 0) _ (by (with_reducible repeat (first | refine blk_drewN ?_ _ | refine blk_drew ?_ | refine blk_alloc ?_ _)); first | with_reducible exact BK149.out | with_reducible exact (blk_far BK149.out NB149_150.out _) | with_reducible exact (blk_far (blk_far BK149.out NB149_150.out _) NB149_150.out _) | with_reducible exact (blk_far (blk_far (blk_far BK149.out NB149_150.out _) NB149_150.out _) NB149_150.out _)) hu26 rfl (by kernel_rfl) ?_) | ((with_reducible refine gate_load (T := 26) rfl ?_); refine load_row_event (by first | rfl | (go_simp; done)) 26 _ rfl gb150 rfl 26 _ (0, 0) _ (by (with_reducible repeat (first | refine blk_drewN ?_ _ | refine blk_drew ?_ | refine blk_alloc ?_ _)); first | with_reducible exact BK150.out | with_reducible exact (blk_far BK150.out NB150_149.out _) | with_reducible exact (blk_far (blk_far BK150.out NB150_149.out _) NB150_149.out _) | with_reducible exact (blk_far (blk_far (blk_far BK150.out NB150_149.out _) NB150_149.out _) NB150_149.out _)) hu26 rfl (by kernel_rfl) ?_) | ((with_reducible refine gate_store (t := 26) rfl ?_); refine store_row_event (base := w.heap.size) rfl rfl 26 _ _ rfl (g := gb149) (by rfl) (by rfl) (by (with_reducible repeat (first | refine blk_drewN ?_ _ | refine blk_drew ?_ | refine blk_alloc ?_ _)); exact BK149.out) (by kernel_rfl) (by rfl) (by rfl) GE149.out ?_; intro ws_ hs_ hk_ hb_; have n0_ := Aside0.mk (Below.trans (by repeat (first | (with_reducible first | exact HB.out | apply below_alloc | apply pw_below_drewN | apply below_drew1) | exact HB.out)) hb_); clear HB; have HB := n0_; clear n0_; clear BK149; have BK149 := Aside0.mk hs_; clear hs_; (try (have z_ := Aside0.mk (blk_else BK150.out NB150_149.out hk_); clear BK150; have BK150 := z_; clear z_)); (try (have z_ := Aside0.mk (blk_else BK150.out NB150_149.out hk_); clear BK150; have BK150 := z_; clear z_)); (try (have z_ := Aside0.mk (blk_else BK150.out NB150_149.out hk_); clear BK150; have BK150 := z_; clear z_)); have hxs_ := blk_cell BK149.out; have hys_ := blk_frozen BK149.out; clear hk_ hb_) | ((with_reducible refine gate_store (t := 26) rfl ?_); refine store_row_event (base := w.heap.size) rfl rfl 26 _ _ rfl (g := gb150) (by rfl) (by rfl) (by (with_reducible repeat (first | refine blk_drewN ?_ _ | refine blk_drew ?_ | refine blk_alloc ?_ _)); exact BK150.out) (by kernel_rfl) (by rfl) (by rfl) GE150.out ?_; intro ws_ hs_ hk_ hb_; have n0_ := Aside0.mk (Below.trans (by repeat (first | (with_reducible first | exact HB.out | apply below_alloc | apply pw_below_drewN | apply below_drew1) | exact HB.out)) hb_); clear HB; have HB := n0_; clear n0_; clear BK150; have BK150 := Aside0.mk hs_; clear hs_; (try (have z_ := Aside0.mk (blk_else BK149.out NB149_150.out hk_); clear BK149; have BK149 := z_; clear z_)); (try (have z_ := Aside0.mk (blk_else BK149.out NB149_150.out hk_); clear BK149; have BK149 := z_; clear z_)); (try (have z_ := Aside0.mk (blk_else BK149.out NB149_150.out hk_); clear BK149; have BK149 := z_; clear z_)); have hxs_ := blk_cell BK150.out; have hys_ := blk_frozen BK150.out; clear hk_ hb_) | (go_at_call 43; (with_reducible refine (compositorref04_Same.calls k3 _ _ l0_4 _ _ l1_4 false _ ?side1 ?side2 ?side3 ?side4 A48.out).mono ?_); (case side1 => repeat (first | exact (Kd.C_below HR0_4.out HB.out) | (with_reducible apply Kd.C_alloc) | (with_reducible apply Kd.C_drewN) | (with_reducible apply Kd.C_drew))); (case side2 => exact HC0_4.out); (case side3 => repeat (first | exact (Kd.C_below HR1_4.out HB.out) | (with_reducible apply Kd.C_alloc) | (with_reducible apply Kd.C_drewN) | (with_reducible apply Kd.C_drew))); (case side4 => exact HC1_4.out); rintro e w' ⟨rfl, ⟨nd, rfl⟩⟩; (try first | exact ⟨rfl, _, World.drewN_drewN _ _ _⟩ | exact ⟨rfl, _, Eq.trans (World.drewN_drewN _ _ _) (congrArg (World.drewN _) (Nat.add_assoc _ _ _))⟩))))
           go_ret
           exact ⟨by first | rfl | (simp [errW_none, errW_some] <;> rfl) | (simp [*, errW_none, errW_some] <;> rfl), by repeat (first | (with_reducible first | exact HB.out | apply below_alloc | apply pw_below_drewN | apply below_drew1 | refine below_set ?_ GE149.out | refine below_set ?_ GE150.out) | exact HB.out)⟩

end Go.Proofs.Ytpijgpjoobffoaa.G
