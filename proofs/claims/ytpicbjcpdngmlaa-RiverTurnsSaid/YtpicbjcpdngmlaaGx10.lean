/- Contracts of the functions of this seat: what each call computes, as a plain Lean function. Made by this session's own generator. -/
import Derived.Test.YtpicbjcpdngmlaaGx0
import Derived.Test.YtpicbjcpdngmlaaGx5
import Derived.Test.YtpicbjcpdngmlaaGx6
import Derived.Test.YtpicbjcpdngmlaaGx7
namespace Go.Proofs.Ytpicbjcpdngmlaa.G
open Go.RowKit Go.Proofs.YtpicbjcpdngmlaaMy Go.Proofs.YtpicbjcpdngmlaaW.PrintWords Go.Proofs.YtpicbjcpdngmlaaW.PrintLast Go.Proofs.YtpicbjcpdngmlaaW.PrintMore
attribute [local go_sem] max2_int min2_int max_two min_two max_three min_three max_four min_four   -- for this text's walks alone
set_option linter.unusedVariables false
set_option linter.unusedSimpArgs false

/-! ### compositorlaw20_RiverTurns: function 4 -/
mutual
def compositorlaw20_RiverTurns.j0 : Nat → Bool → Bool → Int → Int → Int → Int → List (S33) → Int → Int → Int → Int → List (S33) → Option (Bool)
 | 0, _, _, _, _, _, _, _, _, _, _, _, _ => none
 | k + 1, x5, x22, x162000, x162001, x162002, x162003, x162004, x163000, x163001, x163002, x163003, x163004 => if x22 = true then (some x5) else ((river_Count.f x162000 x162001 x162002 x162003 x162004 x163000 x163001 x163002 x163003 x163004).bind fun t166 => (compositorlaw20_RiverTurns.l0 k x5 t166 0 0 0 x162000 x162001 x162002 x162003 x162004 x163000 x163001 x163002 x163003 x163004))
def compositorlaw20_RiverTurns.l0 : Nat → Bool → Int → Int → Int → Int → Int → Int → Int → Int → List (S33) → Int → Int → Int → Int → List (S33) → Option (Bool)
 | 0, _, _, _, _, _, _, _, _, _, _, _, _, _, _, _ => none
 | k + 1, x5, x6, x7, x8, x9, x162000, x162001, x162002, x162003, x162004, x163000, x163001, x163002, x163003, x163004 => if x9 < (x162004.length : Int) then (if 0 ≤ x9 then (compositorlaw20_RiverTurns.l0 k x5 x6 (mx x7 ((rd_T33 x162004 x9).f1)) (mn x8 ((rd_T33 x162004 x9).f1)) (wrap64 (x9 + 1)) x162000 x162001 x162002 x162003 x162004 x163000 x163001 x163002 x163003 x163004) else (none)) else (compositorlaw20_RiverTurns.l1 k x5 x6 x7 x8 0 x162000 x162001 x162002 x162003 x162004 x163000 x163001 x163002 x163003 x163004)
def compositorlaw20_RiverTurns.l1 : Nat → Bool → Int → Int → Int → Int → Int → Int → Int → Int → List (S33) → Int → Int → Int → Int → List (S33) → Option (Bool)
 | 0, _, _, _, _, _, _, _, _, _, _, _, _, _, _, _ => none
 | k + 1, x5, x6, x7, x8, x10, x162000, x162001, x162002, x162003, x162004, x163000, x163001, x163002, x163003, x163004 => if x10 < (x163004.length : Int) then (if 0 ≤ x10 then (compositorlaw20_RiverTurns.l1 k x5 x6 (mx x7 ((rd_T33 x163004 x10).f1)) (mn x8 ((rd_T33 x163004 x10).f1)) (wrap64 (x10 + 1)) x162000 x162001 x162002 x162003 x162004 x163000 x163001 x163002 x163003 x163004) else (none)) else ((river_Gaps.f k x162000 x162001 x162002 x162003 x162004).bind fun t171 => ((river_Gaps.f k x163000 x163001 x163002 x163003 x163004).bind fun t174 => (if (mx (mx x7 x162002) x163002) > 1099511627776 then (compositorlaw20_RiverTurns.j3 k x5 x6 (mx (mx x7 x162002) x163002) (mn (mn x8 x162002) x163002) (wrap64 ((t171.length : Int) * (t174.length : Int))) true x162000 x162001 x162002 x162003 x162004 x163000 x163001 x163002 x163003 x163004) else (compositorlaw20_RiverTurns.j3 k x5 x6 (mx (mx x7 x162002) x163002) (mn (mn x8 x162002) x163002) (wrap64 ((t171.length : Int) * (t174.length : Int))) (decide ((mn (mn x8 x162002) x163002) < (-1099511627776))) x162000 x162001 x162002 x162003 x162004 x163000 x163001 x163002 x163003 x163004))))
def compositorlaw20_RiverTurns.j3 : Nat → Bool → Int → Int → Int → Int → Bool → Int → Int → Int → Int → List (S33) → Int → Int → Int → Int → List (S33) → Option (Bool)
 | 0, _, _, _, _, _, _, _, _, _, _, _, _, _, _, _, _ => none
 | k + 1, x5, x6, x7, x8, x11, x97, x162000, x162001, x162002, x162003, x162004, x163000, x163001, x163002, x163003, x163004 => if x97 = true then (if x5 = true then ((river_Count.f x163000 x163001 x163002 x163003 x163004 x162000 x162001 x162002 x162003 x162004).bind fun t177 => (if x6 = t177 then (if x6 ≥ 0 then (some (decide (x6 ≤ x11))) else (none)) else (none))) else (none)) else (compositorlaw20_RiverTurns.l2 k x5 x6 x7 x8 x11 0 x162000 x162001 x162002 x162003 x162004 x163000 x163001 x163002 x163003 x163004 0 0 (wrap64 ((wrap64 ((wrap64 (x163002 + x7)) - x8)) + 1)) 0 ([] : List (S33)))
def compositorlaw20_RiverTurns.l2 : Nat → Bool → Int → Int → Int → Int → Int → Int → Int → Int → Int → List (S33) → Int → Int → Int → Int → List (S33) → Int → Int → Int → Int → List (S33) → Option (Bool)
 | 0, _, _, _, _, _, _, _, _, _, _, _, _, _, _, _, _, _, _, _, _, _ => none
 | k + 1, x5, x6, x7, x8, x11, x13, x162000, x162001, x162002, x162003, x162004, x163000, x163001, x163002, x163003, x163004, x179000, x179001, x179002, x179003, x179004 => if x13 < (x163004.length : Int) then (if 0 ≤ x13 then (if x179004.length < 8796093022208 then (compositorlaw20_RiverTurns.l2 k x5 x6 x7 x8 x11 (wrap64 (x13 + 1)) x162000 x162001 x162002 x162003 x162004 x163000 x163001 x163002 x163003 x163004 x179000 x179001 x179002 x179003 (x179004 ++ [(⟨(rd_T33 x163004 x13).f0, wrap64 ((wrap64 ((wrap64 (((rd_T33 x163004 x13).f1) + x7)) - x8)) + 1)⟩ : S33)])) else (none)) else (none)) else (if x5 = true then ((river_Count.f x163000 x163001 x163002 x163003 x163004 x162000 x162001 x162002 x162003 x162004).bind fun t184 => (if x6 = t184 then (if x6 ≥ 0 then (if x6 ≤ x11 then ((river_Count.f x162000 x162001 x162002 x162003 x162004 x179000 x179001 x179002 x179003 x179004).bind fun t185 => (if t185 = 0 then ((river_Count.f x179000 x179001 x179002 x179003 x179004 x179000 x179001 x179002 x179003 x179004).bind fun t186 => ((river_Count.f x163000 x163001 x163002 x163003 x163004 x163000 x163001 x163002 x163003 x163004).bind fun t187 => (some (t186 == t187)))) else (none))) else (none)) else (none)) else (none))) else (none))
end
def compositorlaw20_RiverTurns.f (k : Nat) (a0_0 : Int) (a0_1 : Int) (a0_2 : Int) (a0_3 : Int) (l0_4 : List (S33)) (a1_0 : Int) (a1_1 : Int) (a1_2 : Int) (a1_3 : Int) (l1_4 : List (S33)) : Option (Bool) := (compositorlaw20_awake.f k).bind fun t163 => ((compositorlaw20_few.f a0_0 a0_1 a0_2 a0_3 l0_4).bind fun t164 => (if t164 = true then ((compositorlaw20_few.f a1_0 a1_1 a1_2 a1_3 l1_4).bind fun t165 => (compositorlaw20_RiverTurns.j0 k t163 (!t165) a0_0 a0_1 a0_2 a0_3 l0_4 a1_0 a1_1 a1_2 a1_3 l1_4)) else (compositorlaw20_RiverTurns.j0 k t163 true a0_0 a0_1 a0_2 a0_3 l0_4 a1_0 a1_1 a1_2 a1_3 l1_4)))
theorem compositorlaw20_RiverTurns.mono_l : ∀ k, (∀ y0 y1 y2 y3 y4 y5 y6 y7 y8 y9 y10 y11, LeO (compositorlaw20_RiverTurns.j0 k y0 y1 y2 y3 y4 y5 y6 y7 y8 y9 y10 y11) (compositorlaw20_RiverTurns.j0 (k + 1) y0 y1 y2 y3 y4 y5 y6 y7 y8 y9 y10 y11)) ∧ (∀ y0 y1 y2 y3 y4 y5 y6 y7 y8 y9 y10 y11 y12 y13 y14, LeO (compositorlaw20_RiverTurns.l0 k y0 y1 y2 y3 y4 y5 y6 y7 y8 y9 y10 y11 y12 y13 y14) (compositorlaw20_RiverTurns.l0 (k + 1) y0 y1 y2 y3 y4 y5 y6 y7 y8 y9 y10 y11 y12 y13 y14)) ∧ (∀ y0 y1 y2 y3 y4 y5 y6 y7 y8 y9 y10 y11 y12 y13 y14, LeO (compositorlaw20_RiverTurns.l1 k y0 y1 y2 y3 y4 y5 y6 y7 y8 y9 y10 y11 y12 y13 y14) (compositorlaw20_RiverTurns.l1 (k + 1) y0 y1 y2 y3 y4 y5 y6 y7 y8 y9 y10 y11 y12 y13 y14)) ∧ (∀ y0 y1 y2 y3 y4 y5 y6 y7 y8 y9 y10 y11 y12 y13 y14 y15, LeO (compositorlaw20_RiverTurns.j3 k y0 y1 y2 y3 y4 y5 y6 y7 y8 y9 y10 y11 y12 y13 y14 y15) (compositorlaw20_RiverTurns.j3 (k + 1) y0 y1 y2 y3 y4 y5 y6 y7 y8 y9 y10 y11 y12 y13 y14 y15)) ∧ (∀ y0 y1 y2 y3 y4 y5 y6 y7 y8 y9 y10 y11 y12 y13 y14 y15 y16 y17 y18 y19 y20, LeO (compositorlaw20_RiverTurns.l2 k y0 y1 y2 y3 y4 y5 y6 y7 y8 y9 y10 y11 y12 y13 y14 y15 y16 y17 y18 y19 y20) (compositorlaw20_RiverTurns.l2 (k + 1) y0 y1 y2 y3 y4 y5 y6 y7 y8 y9 y10 y11 y12 y13 y14 y15 y16 y17 y18 y19 y20))
 | 0 => ⟨fun _ _ _ _ _ _ _ _ _ _ _ _ r h => by simp [compositorlaw20_RiverTurns.j0] at h, fun _ _ _ _ _ _ _ _ _ _ _ _ _ _ _ r h => by simp [compositorlaw20_RiverTurns.l0] at h, fun _ _ _ _ _ _ _ _ _ _ _ _ _ _ _ r h => by simp [compositorlaw20_RiverTurns.l1] at h, fun _ _ _ _ _ _ _ _ _ _ _ _ _ _ _ _ r h => by simp [compositorlaw20_RiverTurns.j3] at h, fun _ _ _ _ _ _ _ _ _ _ _ _ _ _ _ _ _ _ _ _ _ r h => by simp [compositorlaw20_RiverTurns.l2] at h⟩
 | k + 1 => by
  obtain ⟨ih0, ih1, ih2, ih3, ih4⟩ := compositorlaw20_RiverTurns.mono_l k
  refine ⟨?_, ?_, ?_, ?_, ?_⟩
  ·intro y0 y1 y2 y3 y4 y5 y6 y7 y8 y9 y10 y11
   unfold compositorlaw20_RiverTurns.j0
   repeat' first
   | (with_reducible exact ih0 _ _ _ _ _ _ _ _ _ _ _ _)
   | (with_reducible exact ih1 _ _ _ _ _ _ _ _ _ _ _ _ _ _ _)
   | (with_reducible exact ih2 _ _ _ _ _ _ _ _ _ _ _ _ _ _ _)
   | (with_reducible exact ih3 _ _ _ _ _ _ _ _ _ _ _ _ _ _ _ _)
   | (with_reducible exact ih4 _ _ _ _ _ _ _ _ _ _ _ _ _ _ _ _ _ _ _ _ _)
   | (with_reducible exact compositorlaw20_awake.mono _)
   | (with_reducible exact river_Gaps.mono _ _ _ _ _ _)
   | (with_reducible exact LeO.refl _)
   | (with_reducible exact LeO.none _)
   | (with_reducible refine LeO.ite ?_ ?_)
   | (with_reducible refine LeO.bind ?_ (fun _ => ?_))
   | exact ih0 _ _ _ _ _ _ _ _ _ _ _ _
   | exact ih1 _ _ _ _ _ _ _ _ _ _ _ _ _ _ _
   | exact ih2 _ _ _ _ _ _ _ _ _ _ _ _ _ _ _
   | exact ih3 _ _ _ _ _ _ _ _ _ _ _ _ _ _ _ _
   | exact ih4 _ _ _ _ _ _ _ _ _ _ _ _ _ _ _ _ _ _ _ _ _
   | exact compositorlaw20_awake.mono _
   | exact river_Gaps.mono _ _ _ _ _ _
   | exact LeO.none _
   | refine LeO.ite ?_ ?_
   | refine LeO.bind ?_ (fun _ => ?_)
  ·intro y0 y1 y2 y3 y4 y5 y6 y7 y8 y9 y10 y11 y12 y13 y14
   unfold compositorlaw20_RiverTurns.l0
   repeat' first
   | (with_reducible exact ih0 _ _ _ _ _ _ _ _ _ _ _ _)
   | (with_reducible exact ih1 _ _ _ _ _ _ _ _ _ _ _ _ _ _ _)
   | (with_reducible exact ih2 _ _ _ _ _ _ _ _ _ _ _ _ _ _ _)
   | (with_reducible exact ih3 _ _ _ _ _ _ _ _ _ _ _ _ _ _ _ _)
   | (with_reducible exact ih4 _ _ _ _ _ _ _ _ _ _ _ _ _ _ _ _ _ _ _ _ _)
   | (with_reducible exact compositorlaw20_awake.mono _)
   | (with_reducible exact river_Gaps.mono _ _ _ _ _ _)
   | (with_reducible exact LeO.refl _)
   | (with_reducible exact LeO.none _)
   | (with_reducible refine LeO.ite ?_ ?_)
   | (with_reducible refine LeO.bind ?_ (fun _ => ?_))
   | exact ih0 _ _ _ _ _ _ _ _ _ _ _ _
   | exact ih1 _ _ _ _ _ _ _ _ _ _ _ _ _ _ _
   | exact ih2 _ _ _ _ _ _ _ _ _ _ _ _ _ _ _
   | exact ih3 _ _ _ _ _ _ _ _ _ _ _ _ _ _ _ _
   | exact ih4 _ _ _ _ _ _ _ _ _ _ _ _ _ _ _ _ _ _ _ _ _
   | exact compositorlaw20_awake.mono _
   | exact river_Gaps.mono _ _ _ _ _ _
   | exact LeO.none _
   | refine LeO.ite ?_ ?_
   | refine LeO.bind ?_ (fun _ => ?_)
  ·intro y0 y1 y2 y3 y4 y5 y6 y7 y8 y9 y10 y11 y12 y13 y14
   unfold compositorlaw20_RiverTurns.l1
   repeat' first
   | (with_reducible exact ih0 _ _ _ _ _ _ _ _ _ _ _ _)
   | (with_reducible exact ih1 _ _ _ _ _ _ _ _ _ _ _ _ _ _ _)
   | (with_reducible exact ih2 _ _ _ _ _ _ _ _ _ _ _ _ _ _ _)
   | (with_reducible exact ih3 _ _ _ _ _ _ _ _ _ _ _ _ _ _ _ _)
   | (with_reducible exact ih4 _ _ _ _ _ _ _ _ _ _ _ _ _ _ _ _ _ _ _ _ _)
   | (with_reducible exact compositorlaw20_awake.mono _)
   | (with_reducible exact river_Gaps.mono _ _ _ _ _ _)
   | (with_reducible exact LeO.refl _)
   | (with_reducible exact LeO.none _)
   | (with_reducible refine LeO.ite ?_ ?_)
   | (with_reducible refine LeO.bind ?_ (fun _ => ?_))
   | exact ih0 _ _ _ _ _ _ _ _ _ _ _ _
   | exact ih1 _ _ _ _ _ _ _ _ _ _ _ _ _ _ _
   | exact ih2 _ _ _ _ _ _ _ _ _ _ _ _ _ _ _
   | exact ih3 _ _ _ _ _ _ _ _ _ _ _ _ _ _ _ _
   | exact ih4 _ _ _ _ _ _ _ _ _ _ _ _ _ _ _ _ _ _ _ _ _
   | exact compositorlaw20_awake.mono _
   | exact river_Gaps.mono _ _ _ _ _ _
   | exact LeO.none _
   | refine LeO.ite ?_ ?_
   | refine LeO.bind ?_ (fun _ => ?_)
  ·intro y0 y1 y2 y3 y4 y5 y6 y7 y8 y9 y10 y11 y12 y13 y14 y15
   unfold compositorlaw20_RiverTurns.j3
   repeat' first
   | (with_reducible exact ih0 _ _ _ _ _ _ _ _ _ _ _ _)
   | (with_reducible exact ih1 _ _ _ _ _ _ _ _ _ _ _ _ _ _ _)
   | (with_reducible exact ih2 _ _ _ _ _ _ _ _ _ _ _ _ _ _ _)
   | (with_reducible exact ih3 _ _ _ _ _ _ _ _ _ _ _ _ _ _ _ _)
   | (with_reducible exact ih4 _ _ _ _ _ _ _ _ _ _ _ _ _ _ _ _ _ _ _ _ _)
   | (with_reducible exact compositorlaw20_awake.mono _)
   | (with_reducible exact river_Gaps.mono _ _ _ _ _ _)
   | (with_reducible exact LeO.refl _)
   | (with_reducible exact LeO.none _)
   | (with_reducible refine LeO.ite ?_ ?_)
   | (with_reducible refine LeO.bind ?_ (fun _ => ?_))
   | exact ih0 _ _ _ _ _ _ _ _ _ _ _ _
   | exact ih1 _ _ _ _ _ _ _ _ _ _ _ _ _ _ _
   | exact ih2 _ _ _ _ _ _ _ _ _ _ _ _ _ _ _
   | exact ih3 _ _ _ _ _ _ _ _ _ _ _ _ _ _ _ _
   | exact ih4 _ _ _ _ _ _ _ _ _ _ _ _ _ _ _ _ _ _ _ _ _
   | exact compositorlaw20_awake.mono _
   | exact river_Gaps.mono _ _ _ _ _ _
   | exact LeO.none _
   | refine LeO.ite ?_ ?_
   | refine LeO.bind ?_ (fun _ => ?_)
  ·intro y0 y1 y2 y3 y4 y5 y6 y7 y8 y9 y10 y11 y12 y13 y14 y15 y16 y17 y18 y19 y20
   unfold compositorlaw20_RiverTurns.l2
   repeat' first
   | (with_reducible exact ih0 _ _ _ _ _ _ _ _ _ _ _ _)
   | (with_reducible exact ih1 _ _ _ _ _ _ _ _ _ _ _ _ _ _ _)
   | (with_reducible exact ih2 _ _ _ _ _ _ _ _ _ _ _ _ _ _ _)
   | (with_reducible exact ih3 _ _ _ _ _ _ _ _ _ _ _ _ _ _ _ _)
   | (with_reducible exact ih4 _ _ _ _ _ _ _ _ _ _ _ _ _ _ _ _ _ _ _ _ _)
   | (with_reducible exact compositorlaw20_awake.mono _)
   | (with_reducible exact river_Gaps.mono _ _ _ _ _ _)
   | (with_reducible exact LeO.refl _)
   | (with_reducible exact LeO.none _)
   | (with_reducible refine LeO.ite ?_ ?_)
   | (with_reducible refine LeO.bind ?_ (fun _ => ?_))
   | exact ih0 _ _ _ _ _ _ _ _ _ _ _ _
   | exact ih1 _ _ _ _ _ _ _ _ _ _ _ _ _ _ _
   | exact ih2 _ _ _ _ _ _ _ _ _ _ _ _ _ _ _
   | exact ih3 _ _ _ _ _ _ _ _ _ _ _ _ _ _ _ _
   | exact ih4 _ _ _ _ _ _ _ _ _ _ _ _ _ _ _ _ _ _ _ _ _
   | exact compositorlaw20_awake.mono _
   | exact river_Gaps.mono _ _ _ _ _ _
   | exact LeO.none _
   | refine LeO.ite ?_ ?_
   | refine LeO.bind ?_ (fun _ => ?_)
theorem compositorlaw20_RiverTurns.mono : ∀ a0 a1 a2 a3 a4 a5 a6 a7 a8 a9 k, LeO (compositorlaw20_RiverTurns.f k a0 a1 a2 a3 a4 a5 a6 a7 a8 a9) (compositorlaw20_RiverTurns.f (k + 1) a0 a1 a2 a3 a4 a5 a6 a7 a8 a9) := by
 intro a0 a1 a2 a3 a4 a5 a6 a7 a8 a9 k
 obtain ⟨ih0, ih1, ih2, ih3, ih4⟩ := compositorlaw20_RiverTurns.mono_l k
 unfold compositorlaw20_RiverTurns.f
 repeat' first
   | (with_reducible exact ih0 _ _ _ _ _ _ _ _ _ _ _ _)
   | (with_reducible exact ih1 _ _ _ _ _ _ _ _ _ _ _ _ _ _ _)
   | (with_reducible exact ih2 _ _ _ _ _ _ _ _ _ _ _ _ _ _ _)
   | (with_reducible exact ih3 _ _ _ _ _ _ _ _ _ _ _ _ _ _ _ _)
   | (with_reducible exact ih4 _ _ _ _ _ _ _ _ _ _ _ _ _ _ _ _ _ _ _ _ _)
   | (with_reducible exact compositorlaw20_awake.mono _)
   | (with_reducible exact river_Gaps.mono _ _ _ _ _ _)
   | (with_reducible exact LeO.refl _)
   | (with_reducible exact LeO.none _)
   | (with_reducible refine LeO.ite ?_ ?_)
   | (with_reducible refine LeO.bind ?_ (fun _ => ?_))
   | exact ih0 _ _ _ _ _ _ _ _ _ _ _ _
   | exact ih1 _ _ _ _ _ _ _ _ _ _ _ _ _ _ _
   | exact ih2 _ _ _ _ _ _ _ _ _ _ _ _ _ _ _
   | exact ih3 _ _ _ _ _ _ _ _ _ _ _ _ _ _ _ _
   | exact ih4 _ _ _ _ _ _ _ _ _ _ _ _ _ _ _ _ _ _ _ _ _
   | exact compositorlaw20_awake.mono _
   | exact river_Gaps.mono _ _ _ _ _ _
   | exact LeO.none _
   | refine LeO.ite ?_ ?_
   | refine LeO.bind ?_ (fun _ => ?_)
def compositorlaw20_RiverTurns.T19 : Bool × List (List Nat × List Nat) := (true, [([], []), ([0], [0]), ([1], [1]), ([], []), ([3, 1], [3]), ([4], [4]), ([2, 5], [2, 5]), ([6, 4, 0, 1, 2, 3, 4, 5, 6], [6])])
def compositorlaw20_RiverTurns.B19 : List Nat := [0, 1, 3, 0, 11, 27, 63, 127]
theorem compositorlaw20_RiverTurns.tab19 : rtab .any (opsOf Try.f4 19) = compositorlaw20_RiverTurns.T19 := by kernel_rfl
theorem compositorlaw20_RiverTurns.bits19 : waitsOk compositorlaw20_RiverTurns.T19.2 compositorlaw20_RiverTurns.B19 = true := by kernel_rfl
def compositorlaw20_RiverTurns.T26 : Bool × List (List Nat × List Nat) := (true, [([], []), ([0], [0]), ([], []), ([2], [2]), ([], []), ([3, 4], [3, 4]), ([5], [5]), ([6], [6]), ([], []), ([8], [8]), ([], []), ([9, 10], [9, 10]), ([11], [11]), ([12], [12]), ([], []), ([13, 14], [13, 14]), ([], []), ([15, 16], [15, 16]), ([17], [17]), ([7, 18], [7, 18]), ([19], [19]), ([1, 20], [1, 20]), ([0, 1, 2, 3, 4, 5, 6, 7, 8, 9, 10, 11, 12, 13, 14, 15, 16, 17, 18, 19, 20, 21], []), ([22, 21, 21, 0, 1, 2, 3, 4, 5, 6, 7, 8, 9, 10, 11, 12, 13, 14, 15, 16, 17, 18, 19, 20, 21], [21, 22])])
def compositorlaw20_RiverTurns.B26 : List Nat := [0, 1, 0, 4, 0, 28, 60, 124, 0, 256, 0, 1792, 3840, 7936, 0, 32512, 0, 130816, 261888, 524284, 1048572, 2097151, 4194303, 8388607]
theorem compositorlaw20_RiverTurns.tab26 : rtab .any (opsOf Try.f4 26) = compositorlaw20_RiverTurns.T26 := by kernel_rfl
theorem compositorlaw20_RiverTurns.bits26 : waitsOk compositorlaw20_RiverTurns.T26.2 compositorlaw20_RiverTurns.B26 = true := by kernel_rfl
def compositorlaw20_RiverTurns.T27 : Bool × List (List Nat × List Nat) := (true, [([], []), ([0], [0]), ([1], [1]), ([1], [1]), ([1], [1]), ([3, 4, 1, 1], [1, 3, 4]), ([2, 5, 1], [1, 2, 5]), ([1, 6], [1, 6]), ([7, 5], [7]), ([8], [8]), ([9, 8], [8, 9]), ([8, 10], [8, 10]), ([11, 8], [11]), ([12], [12]), ([12], [12]), ([13, 14, 12], [12, 13, 14]), ([12, 15], [12, 15]), ([16, 12], [16]), ([17], [17]), ([17], [17]), ([18, 19, 17, 17], [17, 18, 19]), ([20, 17], [17, 20]), ([17, 21], [17, 21]), ([22, 20], [22]), ([23], [23]), ([23], [23]), ([24, 25, 23, 23], [23, 24, 25]), ([23], [23]), ([23], [23]), ([27, 28, 26, 23], [23, 27, 28]), ([26, 29, 23], [23, 26, 29]), ([23, 30], [23, 30]), ([31, 29, 0, 1, 2, 3, 4, 5, 6, 7, 8, 9, 10, 11, 12, 13, 14, 15, 16, 17, 18, 19, 20, 21, 22, 23, 24, 25, 26, 27, 28, 29, 30, 31], [31])])
def compositorlaw20_RiverTurns.B27 : List Nat := [0, 1, 3, 3, 3, 27, 63, 127, 255, 511, 1023, 2047, 4095, 8191, 8191, 32767, 65535, 131071, 262143, 262143, 1048575, 2097151, 4194303, 8388607, 16777215, 16777215, 67108863, 16777215, 16777215, 536870911, 1073741823, 2147483647, 4294967295]
theorem compositorlaw20_RiverTurns.tab27 : rtab .any (opsOf Try.f4 27) = compositorlaw20_RiverTurns.T27 := by kernel_rfl
theorem compositorlaw20_RiverTurns.bits27 : waitsOk compositorlaw20_RiverTurns.T27.2 compositorlaw20_RiverTurns.B27 = true := by kernel_rfl
set_option maxHeartbeats 8000000 in
set_option maxRecDepth 100000 in
theorem compositorlaw20_RiverTurns.calls (k : Nat) (a0_0 : Int) (a0_1 : Int) (a0_2 : Int) (a0_3 : Int) (A0_4 : Option Addr) (c0_4 : Nat) (l0_4 : List (S33)) (a1_0 : Int) (a1_1 : Int) (a1_2 : Int) (a1_3 : Int) (A1_4 : Option Addr) (c1_4 : Nat) (l1_4 : List (S33)) (r : Bool) (w : World) (hr0_4 : Kd.C k33 w A0_4 l0_4.length l0_4) (hc0_4 : l0_4.length ≤ c0_4) (hr1_4 : Kd.C k33 w A1_4 l1_4.length l1_4) (hc1_4 : l1_4.length ≤ c1_4) (h : compositorlaw20_RiverTurns.f k a0_0 a0_1 a0_2 a0_3 l0_4 a1_0 a1_1 a1_2 a1_3 l1_4 = some r) :
  Calls Try.prog 4 #[.agg #[.int .i64 a0_0, .int .i64 a0_1, .int .i64 a0_2, .int .i64 a0_3, .slice A0_4 l0_4.length c0_4], .agg #[.int .i64 a1_0, .int .i64 a1_1, .int .i64 a1_2, .int .i64 a1_3, .slice A1_4 l1_4.length c1_4]] w fun e w' => e = .returned (.bool r) ∧ Below w.heap.size w w' := by
 have hu24 := Try.underlying24
 have hu33 := Try.underlying33
 have HR0_4 := Aside0.mk hr0_4
 have HC0_4 := Aside0.mk hc0_4
 clear hr0_4 hc0_4
 have HR1_4 := Aside0.mk hr1_4
 have HC1_4 := Aside0.mk hc1_4
 clear hr1_4 hc1_4
 have HB := Aside0.mk (Below.refl w.heap.size w)
 have H : ((compositorlaw20_awake.f k).bind fun t163 => ((compositorlaw20_few.f a0_0 a0_1 a0_2 a0_3 l0_4).bind fun t164 => (if t164 = true then ((compositorlaw20_few.f a1_0 a1_1 a1_2 a1_3 l1_4).bind fun t165 => (compositorlaw20_RiverTurns.j0 k t163 (!t165) a0_0 a0_1 a0_2 a0_3 l0_4 a1_0 a1_1 a1_2 a1_3 l1_4)) else (compositorlaw20_RiverTurns.j0 k t163 true a0_0 a0_1 a0_2 a0_3 l0_4 a1_0 a1_1 a1_2 a1_3 l1_4)))) = some r := h
 clear h
 replace H := Option.bind_eq_some_iff.mp H
 obtain ⟨t163, A30, H⟩ := H
 replace H : ((compositorlaw20_few.f a0_0 a0_1 a0_2 a0_3 l0_4).bind fun t164 => (if t164 = true then ((compositorlaw20_few.f a1_0 a1_1 a1_2 a1_3 l1_4).bind fun t165 => (compositorlaw20_RiverTurns.j0 k t163 (!t165) a0_0 a0_1 a0_2 a0_3 l0_4 a1_0 a1_1 a1_2 a1_3 l1_4)) else (compositorlaw20_RiverTurns.j0 k t163 true a0_0 a0_1 a0_2 a0_3 l0_4 a1_0 a1_1 a1_2 a1_3 l1_4))) = some r := H
 have A3 := Aside0.mk A30
 clear A30
 have HC4 := Aside0.mk H
 clear H
 go_enter Try.func4, Try.ntmps4
 go_upto_region 2 with (first | ((with_reducible refine gate_dst (N := 2) rfl ?_); refine box_event ?hg (N := 2) ?hd (cs := #[.int .i64 a0_0, .int .i64 a0_1, .int .i64 a0_2, .int .i64 a0_3, .slice A0_4 l0_4.length c0_4]) (t := 24) ?hr ?_; (case hd => rfl); (case hg => rfl); (case hr => first | (go_simp; done) | (go_simp; rfl)); intro gb161 hg w5 hbox hb; have n0_ := Aside0.mk (below_step (by repeat (first | (with_reducible first | exact HB.out | apply below_alloc | apply pw_below_drewN | apply below_drew1) | exact HB.out)) hb); have n1_ := Aside0.mk (hbox); have n2_ := Aside0.mk ((by rw [hg]; exact (below_size (by repeat (first | (with_reducible first | exact HB.out | apply below_alloc | apply pw_below_drewN | apply below_drew1) | exact HB.out))) : w.heap.size ≤ gb161)); have n3_ := Aside0.mk ((by rw [hg]; exact (below_size (by repeat (first | (with_reducible first | exact HB.out | apply below_alloc | apply pw_below_drewN | apply below_drew1) | exact HB.out))) : w.heap.size ≤ gb161)); clear HB; have HB := n0_; have BK161 := n1_; have GW161 := n2_; have GE161 := n3_; clear n0_ n1_ n2_ n3_; clear hb hbox hg) | ((with_reducible refine gate_dst (N := 3) rfl ?_); refine box_event ?hg (N := 3) ?hd (cs := #[.int .i64 a1_0, .int .i64 a1_1, .int .i64 a1_2, .int .i64 a1_3, .slice A1_4 l1_4.length c1_4]) (t := 24) ?hr ?_; (case hd => rfl); (case hg => rfl); (case hr => first | (go_simp; done) | (go_simp; rfl)); intro gb162 hg w6 hbox hb; have n0_ := Aside0.mk (blk_below (g := gb161) (o := .cells #[.int .i64 a0_0, .int .i64 a0_1, .int .i64 a0_2, .int .i64 a0_3, .slice A0_4 l0_4.length c0_4] 24 (0, 0)) (by (with_reducible repeat (first | refine blk_drewN ?_ _ | refine blk_drew ?_ | refine blk_alloc ?_ _)); exact BK161.out) hb); have n1_ := Aside0.mk (below_step (by repeat (first | (with_reducible first | exact HB.out | apply below_alloc | apply pw_below_drewN | apply below_drew1 | refine below_set ?_ GE161.out) | exact HB.out)) hb); have n2_ := Aside0.mk (hbox); have n3_ := Aside0.mk ((by rw [hg]; exact (below_size (by repeat (first | (with_reducible first | exact HB.out | apply below_alloc | apply pw_below_drewN | apply below_drew1 | refine below_set ?_ GE161.out) | exact HB.out))) : w.heap.size ≤ gb162)); have n4_ := Aside0.mk ((by rw [hg]; exact (below_size (by repeat (first | (with_reducible first | exact HB.out | apply below_alloc | apply pw_below_drewN | apply below_drew1 | refine below_set ?_ GE161.out) | exact HB.out))) : w.heap.size ≤ gb162)); have n5_ := Aside0.mk ((by rw [hg]; exact Nat.ne_of_lt (blk_lt (g := gb161) (o := .cells #[.int .i64 a0_0, .int .i64 a0_1, .int .i64 a0_2, .int .i64 a0_3, .slice A0_4 l0_4.length c0_4] 24 (0, 0)) (by (with_reducible repeat (first | refine blk_drewN ?_ _ | refine blk_drew ?_ | refine blk_alloc ?_ _)); exact BK161.out)) : gb161 ≠ gb162)); have n6_ := Aside0.mk ((by rw [hg]; exact Nat.ne_of_gt (blk_lt (g := gb161) (o := .cells #[.int .i64 a0_0, .int .i64 a0_1, .int .i64 a0_2, .int .i64 a0_3, .slice A0_4 l0_4.length c0_4] 24 (0, 0)) (by (with_reducible repeat (first | refine blk_drewN ?_ _ | refine blk_drew ?_ | refine blk_alloc ?_ _)); exact BK161.out)) : gb162 ≠ gb161)); clear BK161; clear HB; have BK161 := n0_; have HB := n1_; have BK162 := n2_; have GW162 := n3_; have GE162 := n4_; have NB161_162 := n5_; have NB162_161 := n6_; clear n0_ n1_ n2_ n3_ n4_ n5_ n6_; clear hb hbox hg) | ((with_reducible refine gate_callee (f := 7) rfl ?_); refine goesL_ (some 14) rfl rfl Try.func7 (by kernel_rfl) rfl #[] rfl (by (try simp only [List.map_toArray, List.map_cons, List.map_nil]); first | done | rfl | (simp only [List.length_drop, List.length_take]; rfl)) ?_; (with_reducible refine (compositorlaw20_awake.calls k  t163 _ A3.out).mono ?_); rintro e w7 ⟨rfl, hb⟩; refine ⟨_, rfl, ?_⟩; have n0_ := Aside0.mk (blk_below (g := gb161) (o := .cells #[.int .i64 a0_0, .int .i64 a0_1, .int .i64 a0_2, .int .i64 a0_3, .slice A0_4 l0_4.length c0_4] 24 (0, 0)) (by (with_reducible repeat (first | refine blk_drewN ?_ _ | refine blk_drew ?_ | refine blk_alloc ?_ _)); exact BK161.out) hb); have n1_ := Aside0.mk (blk_below (g := gb162) (o := .cells #[.int .i64 a1_0, .int .i64 a1_1, .int .i64 a1_2, .int .i64 a1_3, .slice A1_4 l1_4.length c1_4] 24 (0, 0)) (by (with_reducible repeat (first | refine blk_drewN ?_ _ | refine blk_drew ?_ | refine blk_alloc ?_ _)); exact BK162.out) hb); have n2_ := Aside0.mk (below_step (by repeat (first | (with_reducible first | exact HB.out | apply below_alloc | apply pw_below_drewN | apply below_drew1 | refine below_set ?_ GE161.out | refine below_set ?_ GE162.out) | exact HB.out)) hb); clear BK161; clear BK162; clear HB; have BK161 := n0_; have BK162 := n1_; have HB := n2_; clear n0_ n1_ n2_; (try clear hb); (try clear hb2); (try clear hk); (try clear hi)))
 (try simp only [Act.put, List.setIfInBounds_toArray, List.set_cons_zero, List.set_cons_succ])
 go_cut [22] (fun v22 wc => ∃ (kq : Nat) (x22_3 : Bool), v22 = .bool x22_3 ∧ Aside0 (compositorlaw20_RiverTurns.j0 kq t163 x22_3 a0_0 a0_1 a0_2 a0_3 l0_4 a1_0 a1_1 a1_2 a1_3 l1_4 = some r) ∧ Aside0 (kq ≤ k) ∧ Aside0 (wc.heap[gb161]? = some (.cells #[.int .i64 a0_0, .int .i64 a0_1, .int .i64 a0_2, .int .i64 a0_3, (.slice A0_4 l0_4.length c0_4)] 24 (0, 0))) ∧ Aside0 (wc.heap[gb162]? = some (.cells #[.int .i64 a1_0, .int .i64 a1_1, .int .i64 a1_2, .int .i64 a1_3, (.slice A1_4 l1_4.length c1_4)] 24 (0, 0))) ∧ Aside0 (Below w.heap.size w wc))
 case first => as_aux_lemma =>
  have H := HC4.out
  clear HC4
  replace H := Option.bind_eq_some_iff.mp H
  obtain ⟨t164, A80, H⟩ := H
  replace H : (if t164 = true then ((compositorlaw20_few.f a1_0 a1_1 a1_2 a1_3 l1_4).bind fun t165 => (compositorlaw20_RiverTurns.j0 k t163 (!t165) a0_0 a0_1 a0_2 a0_3 l0_4 a1_0 a1_1 a1_2 a1_3 l1_4)) else (compositorlaw20_RiverTurns.j0 k t163 true a0_0 a0_1 a0_2 a0_3 l0_4 a1_0 a1_1 a1_2 a1_3 l1_4)) = some r := H
  have A8 := Aside0.mk A80
  clear A80
  by_cases c9 : t164 = true
  ·subst c9
   have H1 : ((compositorlaw20_few.f a1_0 a1_1 a1_2 a1_3 l1_4).bind fun t165 => (compositorlaw20_RiverTurns.j0 k t163 (!t165) a0_0 a0_1 a0_2 a0_3 l0_4 a1_0 a1_1 a1_2 a1_3 l1_4)) = some r := by rw [if_pos rfl] at H; exact H
   clear H
   have H := H1
   clear H1
   replace H := Option.bind_eq_some_iff.mp H
   obtain ⟨t165, A100, H⟩ := H
   replace H : (compositorlaw20_RiverTurns.j0 k t163 (!t165) a0_0 a0_1 a0_2 a0_3 l0_4 a1_0 a1_1 a1_2 a1_3 l1_4) = some r := H
   have A10 := Aside0.mk A100
   clear A100
   have H' := Aside0.mk H
   clear H
   have hnb11 := NB161_162.out
   have hnc11 := NB162_161.out
   have hcz12_0 : w7.cell? ⟨gb161, 0, none⟩ = some (.int .i64 a0_0) := (blk_cell BK161.out 0).trans rfl
   have hcz12_1 : w7.cell? ⟨gb161, 1, none⟩ = some (.int .i64 a0_1) := (blk_cell BK161.out 1).trans rfl
   have hcz12_2 : w7.cell? ⟨gb161, 2, none⟩ = some (.int .i64 a0_2) := (blk_cell BK161.out 2).trans rfl
   have hcz12_3 : w7.cell? ⟨gb161, 3, none⟩ = some (.int .i64 a0_3) := (blk_cell BK161.out 3).trans rfl
   have hcz12_4 : w7.cell? ⟨gb161, 4, none⟩ = some (.slice A0_4 l0_4.length c0_4) := (blk_cell BK161.out 4).trans rfl
   have hfz12_0 := blk_frozen BK161.out 0
   have hfz12_1 := blk_frozen BK161.out 1
   have hfz12_2 := blk_frozen BK161.out 2
   have hfz12_3 := blk_frozen BK161.out 3
   have hfz12_4 := blk_frozen BK161.out 4
   have tk_ : True := trivial
   go_wp2_with (first | (go_at_call 8; clear tk_; (with_reducible refine (compositorlaw20_few.calls a0_0 a0_1 a0_2 a0_3 _ _ l0_4 true _ ?side1 ?side2 A8.out).mono ?_); (case side1 => repeat (first | exact (Kd.C_below HR0_4.out HB.out) | (with_reducible apply Kd.C_alloc) | (with_reducible apply Kd.C_drewN) | (with_reducible apply Kd.C_drew))); (case side2 => exact HC0_4.out); rintro e w13 ⟨rfl, hb⟩; have n0_ := Aside0.mk (blk_below (g := gb161) (o := .cells #[.int .i64 a0_0, .int .i64 a0_1, .int .i64 a0_2, .int .i64 a0_3, .slice A0_4 l0_4.length c0_4] 24 (0, 0)) (by (with_reducible repeat (first | refine blk_drewN ?_ _ | refine blk_drew ?_ | refine blk_alloc ?_ _)); exact BK161.out) hb); have n1_ := Aside0.mk (blk_below (g := gb162) (o := .cells #[.int .i64 a1_0, .int .i64 a1_1, .int .i64 a1_2, .int .i64 a1_3, .slice A1_4 l1_4.length c1_4] 24 (0, 0)) (by (with_reducible repeat (first | refine blk_drewN ?_ _ | refine blk_drew ?_ | refine blk_alloc ?_ _)); exact BK162.out) hb); have n2_ := Aside0.mk (below_step (by repeat (first | (with_reducible first | exact HB.out | apply below_alloc | apply pw_below_drewN | apply below_drew1 | refine below_set ?_ GE161.out | refine below_set ?_ GE162.out) | exact HB.out)) hb); clear BK161; clear BK162; clear HB; have BK161 := n0_; have BK162 := n1_; have HB := n2_; clear n0_ n1_ n2_; (try clear hb); (try clear hb2); (try clear hk); (try clear hi); have hcz14_0 : w13.cell? ⟨gb162, 0, none⟩ = some (.int .i64 a1_0) := (blk_cell BK162.out 0).trans rfl; have hcz14_1 : w13.cell? ⟨gb162, 1, none⟩ = some (.int .i64 a1_1) := (blk_cell BK162.out 1).trans rfl; have hcz14_2 : w13.cell? ⟨gb162, 2, none⟩ = some (.int .i64 a1_2) := (blk_cell BK162.out 2).trans rfl; have hcz14_3 : w13.cell? ⟨gb162, 3, none⟩ = some (.int .i64 a1_3) := (blk_cell BK162.out 3).trans rfl; have hcz14_4 : w13.cell? ⟨gb162, 4, none⟩ = some (.slice A1_4 l1_4.length c1_4) := (blk_cell BK162.out 4).trans rfl; have hfz14_0 := blk_frozen BK162.out 0; have hfz14_1 := blk_frozen BK162.out 1; have hfz14_2 := blk_frozen BK162.out 2; have hfz14_3 := blk_frozen BK162.out 3; have hfz14_4 := blk_frozen BK162.out 4))
   as_aux_lemma =>
   have tk_ : True := trivial
   go_wp2_with (first | (go_at_call 8; clear tk_; (with_reducible refine (compositorlaw20_few.calls a1_0 a1_1 a1_2 a1_3 _ _ l1_4 t165 _ ?side1 ?side2 A10.out).mono ?_); (case side1 => repeat (first | exact (Kd.C_below HR1_4.out HB.out) | (with_reducible apply Kd.C_alloc) | (with_reducible apply Kd.C_drewN) | (with_reducible apply Kd.C_drew))); (case side2 => exact HC1_4.out); rintro e w15 ⟨rfl, hb⟩; have n0_ := Aside0.mk (blk_below (g := gb161) (o := .cells #[.int .i64 a0_0, .int .i64 a0_1, .int .i64 a0_2, .int .i64 a0_3, .slice A0_4 l0_4.length c0_4] 24 (0, 0)) (by (with_reducible repeat (first | refine blk_drewN ?_ _ | refine blk_drew ?_ | refine blk_alloc ?_ _)); exact BK161.out) hb); have n1_ := Aside0.mk (blk_below (g := gb162) (o := .cells #[.int .i64 a1_0, .int .i64 a1_1, .int .i64 a1_2, .int .i64 a1_3, .slice A1_4 l1_4.length c1_4] 24 (0, 0)) (by (with_reducible repeat (first | refine blk_drewN ?_ _ | refine blk_drew ?_ | refine blk_alloc ?_ _)); exact BK162.out) hb); have n2_ := Aside0.mk (below_step (by repeat (first | (with_reducible first | exact HB.out | apply below_alloc | apply pw_below_drewN | apply below_drew1 | refine below_set ?_ GE161.out | refine below_set ?_ GE162.out) | exact HB.out)) hb); clear BK161; clear BK162; clear HB; have BK161 := n0_; have BK162 := n1_; have HB := n2_; clear n0_ n1_ n2_; (try clear hb); (try clear hb2); (try clear hk); (try clear hi)))
   go_meet
   case rel => exact ⟨_, (!t165), (by first | rfl | (simp; done) | (simp [*]; done)), H', ⟨by first | omega | exact Nat.le_refl _⟩, ⟨by (with_reducible repeat (first | refine blk_drewN ?_ _ | refine blk_drew ?_ | refine blk_alloc ?_ _)); exact BK161.out⟩, ⟨by (with_reducible repeat (first | refine blk_drewN ?_ _ | refine blk_drew ?_ | refine blk_alloc ?_ _)); exact BK162.out⟩, ⟨by repeat (first | (with_reducible first | exact HB.out | apply below_alloc | apply pw_below_drewN | apply below_drew1 | refine below_set ?_ GE161.out | refine below_set ?_ GE162.out) | exact HB.out)⟩⟩
  ·replace c9 := Bool.eq_false_iff.mpr c9
   subst c9
   have H1 : (compositorlaw20_RiverTurns.j0 k t163 true a0_0 a0_1 a0_2 a0_3 l0_4 a1_0 a1_1 a1_2 a1_3 l1_4) = some r := by rw [if_neg (show ¬ (false = true) by decide)] at H; exact H
   clear H
   have H := H1
   clear H1
   have H' := Aside0.mk H
   clear H
   have hnb16 := NB161_162.out
   have hnc16 := NB162_161.out
   have hcz17_0 : w7.cell? ⟨gb161, 0, none⟩ = some (.int .i64 a0_0) := (blk_cell BK161.out 0).trans rfl
   have hcz17_1 : w7.cell? ⟨gb161, 1, none⟩ = some (.int .i64 a0_1) := (blk_cell BK161.out 1).trans rfl
   have hcz17_2 : w7.cell? ⟨gb161, 2, none⟩ = some (.int .i64 a0_2) := (blk_cell BK161.out 2).trans rfl
   have hcz17_3 : w7.cell? ⟨gb161, 3, none⟩ = some (.int .i64 a0_3) := (blk_cell BK161.out 3).trans rfl
   have hcz17_4 : w7.cell? ⟨gb161, 4, none⟩ = some (.slice A0_4 l0_4.length c0_4) := (blk_cell BK161.out 4).trans rfl
   have hfz17_0 := blk_frozen BK161.out 0
   have hfz17_1 := blk_frozen BK161.out 1
   have hfz17_2 := blk_frozen BK161.out 2
   have hfz17_3 := blk_frozen BK161.out 3
   have hfz17_4 := blk_frozen BK161.out 4
   go_wp2_with (first | ((with_reducible refine gate_callee (f := 8) rfl ?_); refine goesL_ (some 16) rfl rfl Try.func8 (by kernel_rfl) rfl #[.agg #[.int .i64 a0_0, .int .i64 a0_1, .int .i64 a0_2, .int .i64 a0_3, .slice A0_4 l0_4.length c0_4]] rfl (by (try simp only [List.map_toArray, List.map_cons, List.map_nil]); first | done | rfl | (simp only [List.length_drop, List.length_take]; rfl)) ?_; (with_reducible refine (compositorlaw20_few.calls a0_0 a0_1 a0_2 a0_3 _ _ l0_4 false _ ?side1 ?side2 A8.out).mono ?_); (case side1 => repeat (first | exact (Kd.C_below HR0_4.out HB.out) | (with_reducible apply Kd.C_alloc) | (with_reducible apply Kd.C_drewN) | (with_reducible apply Kd.C_drew))); (case side2 => exact HC0_4.out); rintro e w18 ⟨rfl, hb⟩; refine ⟨_, rfl, ?_⟩; have n0_ := Aside0.mk (blk_below (g := gb161) (o := .cells #[.int .i64 a0_0, .int .i64 a0_1, .int .i64 a0_2, .int .i64 a0_3, .slice A0_4 l0_4.length c0_4] 24 (0, 0)) (by (with_reducible repeat (first | refine blk_drewN ?_ _ | refine blk_drew ?_ | refine blk_alloc ?_ _)); exact BK161.out) hb); have n1_ := Aside0.mk (blk_below (g := gb162) (o := .cells #[.int .i64 a1_0, .int .i64 a1_1, .int .i64 a1_2, .int .i64 a1_3, .slice A1_4 l1_4.length c1_4] 24 (0, 0)) (by (with_reducible repeat (first | refine blk_drewN ?_ _ | refine blk_drew ?_ | refine blk_alloc ?_ _)); exact BK162.out) hb); have n2_ := Aside0.mk (below_step (by repeat (first | (with_reducible first | exact HB.out | apply below_alloc | apply pw_below_drewN | apply below_drew1 | refine below_set ?_ GE161.out | refine below_set ?_ GE162.out) | exact HB.out)) hb); clear BK161; clear BK162; clear HB; have BK161 := n0_; have BK162 := n1_; have HB := n2_; clear n0_ n1_ n2_; (try clear hb); (try clear hb2); (try clear hk); (try clear hi)))
   go_meet
   case rel => exact ⟨_, (true), (by first | rfl | (simp; done) | (simp [*]; done)), H', ⟨by first | omega | exact Nat.le_refl _⟩, ⟨by (with_reducible repeat (first | refine blk_drewN ?_ _ | refine blk_drew ?_ | refine blk_alloc ?_ _)); exact BK161.out⟩, ⟨by (with_reducible repeat (first | refine blk_drewN ?_ _ | refine blk_drew ?_ | refine blk_alloc ?_ _)); exact BK162.out⟩, ⟨by repeat (first | (with_reducible first | exact HB.out | apply below_alloc | apply pw_below_drewN | apply below_drew1 | refine below_set ?_ GE161.out | refine below_set ?_ GE162.out) | exact HB.out)⟩⟩
 case rest => as_aux_lemma =>
  clear HC4
  try clear c1
  try clear p2
  try clear c4
  try clear c7
  try clear c8
  try clear c9
  try clear c11
  try clear c16
  try clear hcz12_0
  try clear hcz12_1
  try clear hcz12_2
  try clear hcz12_3
  try clear hcz12_4
  try clear hcz14_0
  try clear hcz14_1
  try clear hcz14_2
  try clear hcz14_3
  try clear hcz14_4
  try clear hcz17_0
  try clear hcz17_1
  try clear hcz17_2
  try clear hcz17_3
  try clear hcz17_4
  try clear hfz12_0
  try clear hfz12_1
  try clear hfz12_2
  try clear hfz12_3
  try clear hfz12_4
  try clear hfz14_0
  try clear hfz14_1
  try clear hfz14_2
  try clear hfz14_3
  try clear hfz14_4
  try clear hfz17_0
  try clear hfz17_1
  try clear hfz17_2
  try clear hfz17_3
  try clear hfz17_4
  obtain ⟨kq, x22_3, rfl, HA, HJ3, BK161, BK162, HB⟩ := hcut
  cases kq with
  | zero => exact absurd HA.out (by simp [compositorlaw20_RiverTurns.j0])
  | succ kj3 =>
   have H := HA.out
   clear HA
   simp only [compositorlaw20_RiverTurns.j0] at H
   by_cases c19 : x22_3 = true
   ·subst c19
    have H1 : (some t163) = some r := by rw [if_pos rfl] at H; exact H
    clear H
    have H := H1
    clear H1
    obtain rfl := Option.some.inj H
    go_wp2
    go_ret
    exact ⟨by first | rfl | (simp [errW_none, errW_some] <;> rfl) | (simp [*, errW_none, errW_some] <;> rfl), by repeat (first | (with_reducible first | exact HB.out | apply below_alloc | apply pw_below_drewN | apply below_drew1 | refine below_set ?_ GE161.out | refine below_set ?_ GE162.out) | exact HB.out)⟩
   ·replace c19 := Bool.eq_false_iff.mpr c19
    subst c19
    have H1 : ((river_Count.f a0_0 a0_1 a0_2 a0_3 l0_4 a1_0 a1_1 a1_2 a1_3 l1_4).bind fun t166 => (compositorlaw20_RiverTurns.l0 kj3 t163 t166 0 0 0 a0_0 a0_1 a0_2 a0_3 l0_4 a1_0 a1_1 a1_2 a1_3 l1_4)) = some r := by rw [if_neg (show ¬ (false = true) by decide)] at H; exact H
    clear H
    have H := H1
    clear H1
    replace H := Option.bind_eq_some_iff.mp H
    obtain ⟨t166, A200, H⟩ := H
    replace H : (compositorlaw20_RiverTurns.l0 kj3 t163 t166 0 0 0 a0_0 a0_1 a0_2 a0_3 l0_4 a1_0 a1_1 a1_2 a1_3 l1_4) = some r := H
    have A20 := Aside0.mk A200
    clear A200
    have H' := Aside0.mk H
    clear H
    have hnb21 := NB161_162.out
    have hnc21 := NB162_161.out
    have hcz22_0 : wc.cell? ⟨gb161, 0, none⟩ = some (.int .i64 a0_0) := (blk_cell BK161.out 0).trans rfl
    have hcz22_1 : wc.cell? ⟨gb161, 1, none⟩ = some (.int .i64 a0_1) := (blk_cell BK161.out 1).trans rfl
    have hcz22_2 : wc.cell? ⟨gb161, 2, none⟩ = some (.int .i64 a0_2) := (blk_cell BK161.out 2).trans rfl
    have hcz22_3 : wc.cell? ⟨gb161, 3, none⟩ = some (.int .i64 a0_3) := (blk_cell BK161.out 3).trans rfl
    have hcz22_4 : wc.cell? ⟨gb161, 4, none⟩ = some (.slice A0_4 l0_4.length c0_4) := (blk_cell BK161.out 4).trans rfl
    have hfz22_0 := blk_frozen BK161.out 0
    have hfz22_1 := blk_frozen BK161.out 1
    have hfz22_2 := blk_frozen BK161.out 2
    have hfz22_3 := blk_frozen BK161.out 3
    have hfz22_4 := blk_frozen BK161.out 4
    have hcz23_0 : wc.cell? ⟨gb162, 0, none⟩ = some (.int .i64 a1_0) := (blk_cell BK162.out 0).trans rfl
    have hcz23_1 : wc.cell? ⟨gb162, 1, none⟩ = some (.int .i64 a1_1) := (blk_cell BK162.out 1).trans rfl
    have hcz23_2 : wc.cell? ⟨gb162, 2, none⟩ = some (.int .i64 a1_2) := (blk_cell BK162.out 2).trans rfl
    have hcz23_3 : wc.cell? ⟨gb162, 3, none⟩ = some (.int .i64 a1_3) := (blk_cell BK162.out 3).trans rfl
    have hcz23_4 : wc.cell? ⟨gb162, 4, none⟩ = some (.slice A1_4 l1_4.length c1_4) := (blk_cell BK162.out 4).trans rfl
    have hfz23_0 := blk_frozen BK162.out 0
    have hfz23_1 := blk_frozen BK162.out 1
    have hfz23_2 := blk_frozen BK162.out 2
    have hfz23_3 := blk_frozen BK162.out 3
    have hfz23_4 := blk_frozen BK162.out 4
    go_wp2_with (first | ((with_reducible refine gate_callee (f := 12) rfl ?_); refine goesL_ (some 26) rfl rfl Try.func12 (by kernel_rfl) rfl #[.agg #[.int .i64 a0_0, .int .i64 a0_1, .int .i64 a0_2, .int .i64 a0_3, .slice A0_4 l0_4.length c0_4], .agg #[.int .i64 a1_0, .int .i64 a1_1, .int .i64 a1_2, .int .i64 a1_3, .slice A1_4 l1_4.length c1_4]] rfl (by (try simp only [List.map_toArray, List.map_cons, List.map_nil]); first | done | rfl | (simp only [List.length_drop, List.length_take]; rfl)) ?_; (with_reducible refine (river_Count.calls a0_0 a0_1 a0_2 a0_3 _ _ l0_4 a1_0 a1_1 a1_2 a1_3 _ _ l1_4 t166 _ ?side1 ?side2 ?side3 ?side4 A20.out).mono ?_); (case side1 => repeat (first | exact (Kd.C_below HR0_4.out HB.out) | (with_reducible apply Kd.C_alloc) | (with_reducible apply Kd.C_drewN) | (with_reducible apply Kd.C_drew))); (case side2 => exact HC0_4.out); (case side3 => repeat (first | exact (Kd.C_below HR1_4.out HB.out) | (with_reducible apply Kd.C_alloc) | (with_reducible apply Kd.C_drewN) | (with_reducible apply Kd.C_drew))); (case side4 => exact HC1_4.out); rintro e w24 ⟨rfl, hb⟩; refine ⟨_, rfl, ?_⟩; have n0_ := Aside0.mk (blk_below (g := gb161) (o := .cells #[.int .i64 a0_0, .int .i64 a0_1, .int .i64 a0_2, .int .i64 a0_3, .slice A0_4 l0_4.length c0_4] 24 (0, 0)) (by (with_reducible repeat (first | refine blk_drewN ?_ _ | refine blk_drew ?_ | refine blk_alloc ?_ _)); exact BK161.out) hb); have n1_ := Aside0.mk (blk_below (g := gb162) (o := .cells #[.int .i64 a1_0, .int .i64 a1_1, .int .i64 a1_2, .int .i64 a1_3, .slice A1_4 l1_4.length c1_4] 24 (0, 0)) (by (with_reducible repeat (first | refine blk_drewN ?_ _ | refine blk_drew ?_ | refine blk_alloc ?_ _)); exact BK162.out) hb); have n2_ := Aside0.mk (below_step (by repeat (first | (with_reducible first | exact HB.out | apply below_alloc | apply pw_below_drewN | apply below_drew1 | refine below_set ?_ GE161.out | refine below_set ?_ GE162.out) | exact HB.out)) hb); clear BK161; clear BK162; clear HB; have BK161 := n0_; have BK162 := n1_; have HB := n2_; clear n0_ n1_ n2_; (try clear hb); (try clear hb2); (try clear hk); (try clear hi)))
    go_loopg [7, 8, 9] kj3 (fun kq v7 v8 v9 w' => ∃ (x7_2 : Int) (x8_2 : Int) (x9_2 : Int), v7 = .int .i64 x7_2 ∧ v8 = .int .i64 x8_2 ∧ v9 = .int .i64 x9_2 ∧ Aside0 (compositorlaw20_RiverTurns.l0 kq t163 t166 x7_2 x8_2 x9_2 a0_0 a0_1 a0_2 a0_3 l0_4 a1_0 a1_1 a1_2 a1_3 l1_4 = some r) ∧ Aside0 (kq ≤ kj3) ∧ Aside0 (w'.heap[gb161]? = some (.cells #[.int .i64 a0_0, .int .i64 a0_1, .int .i64 a0_2, .int .i64 a0_3, (.slice A0_4 l0_4.length c0_4)] 24 (0, 0))) ∧ Aside0 (w'.heap[gb162]? = some (.cells #[.int .i64 a1_0, .int .i64 a1_1, .int .i64 a1_2, .int .i64 a1_3, (.slice A1_4 l1_4.length c1_4)] 24 (0, 0))) ∧ Aside0 (Below w.heap.size w w'))
    case atStart => exact ⟨(0), (0), (0), (by first | rfl | (simp; done) | (simp [*]; done)), (by first | rfl | (simp; done) | (simp [*]; done)), (by first | rfl | (simp; done) | (simp [*]; done)), H', ⟨Nat.le_refl _⟩, ⟨by (with_reducible repeat (first | refine blk_drewN ?_ _ | refine blk_drew ?_ | refine blk_alloc ?_ _)); exact BK161.out⟩, ⟨by (with_reducible repeat (first | refine blk_drewN ?_ _ | refine blk_drew ?_ | refine blk_alloc ?_ _)); exact BK162.out⟩, ⟨by repeat (first | (with_reducible first | exact HB.out | apply below_alloc | apply pw_below_drewN | apply below_drew1 | refine below_set ?_ GE161.out | refine below_set ?_ GE162.out) | exact HB.out)⟩⟩
    case round =>
     clear H'
     try clear c1
     try clear c2
     try clear p2
     try clear c4
     try clear c7
     try clear c8
     try clear c9
     try clear c11
     try clear c12
     try clear c16
     try clear c19
     try clear c21
     try clear hcz12_0
     try clear hcz12_1
     try clear hcz12_2
     try clear hcz12_3
     try clear hcz12_4
     try clear hcz14_0
     try clear hcz14_1
     try clear hcz14_2
     try clear hcz14_3
     try clear hcz14_4
     try clear hcz17_0
     try clear hcz17_1
     try clear hcz17_2
     try clear hcz17_3
     try clear hcz17_4
     try clear hcz22_0
     try clear hcz22_1
     try clear hcz22_2
     try clear hcz22_3
     try clear hcz22_4
     try clear hcz23_0
     try clear hcz23_1
     try clear hcz23_2
     try clear hcz23_3
     try clear hcz23_4
     try clear hfz12_0
     try clear hfz12_1
     try clear hfz12_2
     try clear hfz12_3
     try clear hfz12_4
     try clear hfz14_0
     try clear hfz14_1
     try clear hfz14_2
     try clear hfz14_3
     try clear hfz14_4
     try clear hfz17_0
     try clear hfz17_1
     try clear hfz17_2
     try clear hfz17_3
     try clear hfz17_4
     try clear hfz22_0
     try clear hfz22_1
     try clear hfz22_2
     try clear hfz22_3
     try clear hfz22_4
     try clear hfz23_0
     try clear hfz23_1
     try clear hfz23_2
     try clear hfz23_3
     try clear hfz23_4
     try clear p2
     obtain ⟨x7_2, x8_2, x9_2, rfl, rfl, rfl, HA, HK2, BK161, BK162, HB⟩ := hrel
     cases gk with
     | zero => exact absurd HA.out (by simp [compositorlaw20_RiverTurns.l0])
     | succ k2 =>
      have H := HA.out
      clear HA
      simp only [compositorlaw20_RiverTurns.l0] at H
      by_cases c25 : x9_2 < (l0_4.length : Int)
      ·rw [if_pos c25] at H
       have c25b0 : decide (x9_2 < (l0_4.length : Int)) = true := decide_eq_true c25
       clear c25
       by_cases c26 : 0 ≤ x9_2
       ·rw [if_pos c26] at H
        have c26b0 : decide (0 ≤ x9_2) = true := decide_eq_true c26
        clear c26
        obtain ⟨ji27, hji27⟩ : ∃ j_ : Int, (mx x7_2 ((rd_T33 l0_4 x9_2).f1)) = j_ := ⟨_, rfl⟩
        replace H : (compositorlaw20_RiverTurns.l0 k2 t163 t166 ji27 (mn x8_2 ((rd_T33 l0_4 x9_2).f1)) (wrap64 (x9_2 + 1)) a0_0 a0_1 a0_2 a0_3 l0_4 a1_0 a1_1 a1_2 a1_3 l1_4) = some r := by first | (rw [hji27] at H; exact H) | (simp only [hji27] at H ⊢; exact H)
        have hji27_ : (if x7_2 < ((rd_T33 l0_4 x9_2).f1) then ((rd_T33 l0_4 x9_2).f1) else x7_2) = ji27 := hji27
        obtain ⟨ji28, hji28⟩ : ∃ j_ : Int, (mn x8_2 ((rd_T33 l0_4 x9_2).f1)) = j_ := ⟨_, rfl⟩
        replace H : (compositorlaw20_RiverTurns.l0 k2 t163 t166 ji27 ji28 (wrap64 (x9_2 + 1)) a0_0 a0_1 a0_2 a0_3 l0_4 a1_0 a1_1 a1_2 a1_3 l1_4) = some r := by first | (rw [hji28] at H; exact H) | (simp only [hji28] at H ⊢; exact H)
        have hji28_ : (if ((rd_T33 l0_4 x9_2).f1) < x8_2 then ((rd_T33 l0_4 x9_2).f1) else x8_2) = ji28 := hji28
        have H' := Aside0.mk H
        clear H
        have hnb29 := NB161_162.out
        have hnc29 := NB162_161.out
        have hcz30_0 : wr.cell? ⟨gb161, 0, none⟩ = some (.int .i64 a0_0) := (blk_cell BK161.out 0).trans rfl
        have hcz30_1 : wr.cell? ⟨gb161, 1, none⟩ = some (.int .i64 a0_1) := (blk_cell BK161.out 1).trans rfl
        have hcz30_2 : wr.cell? ⟨gb161, 2, none⟩ = some (.int .i64 a0_2) := (blk_cell BK161.out 2).trans rfl
        have hcz30_3 : wr.cell? ⟨gb161, 3, none⟩ = some (.int .i64 a0_3) := (blk_cell BK161.out 3).trans rfl
        have hcz30_4 : wr.cell? ⟨gb161, 4, none⟩ = some (.slice A0_4 l0_4.length c0_4) := (blk_cell BK161.out 4).trans rfl
        have hfz30_0 := blk_frozen BK161.out 0
        have hfz30_1 := blk_frozen BK161.out 1
        have hfz30_2 := blk_frozen BK161.out 2
        have hfz30_3 := blk_frozen BK161.out 3
        have hfz30_4 := blk_frozen BK161.out 4
        have p167 : 0 ≤ (x9_2 : Int) := odt
        have q167 : x9_2 < (l0_4.length : Int) := odt
        obtain ⟨ad167, e167, hx167_0, hx167_1⟩ := at_T33 HR0_4.out x9_2 p167 q167
        cases e167
        replace hx167_0 := (HB.out.cell (World.block_lt_of_cell? w _ hx167_0)).trans hx167_0
        replace hx167_1 := (HB.out.cell (World.block_lt_of_cell? w _ hx167_1)).trans hx167_1
        replace p167 := eq_true p167
        replace q167 := eq_true q167
        have p168 : 0 ≤ (x9_2 : Int) := odt
        have q168 : x9_2 < (l0_4.length : Int) := odt
        obtain ⟨ad168, e168, hx168_0, hx168_1⟩ := at_T33 HR0_4.out x9_2 p168 q168
        obtain rfl : ad167 = ad168 := (by injection e168)
        replace hx168_0 := (HB.out.cell (World.block_lt_of_cell? w _ hx168_0)).trans hx168_0
        replace hx168_1 := (HB.out.cell (World.block_lt_of_cell? w _ hx168_1)).trans hx168_1
        replace p168 := eq_true p168
        replace q168 := eq_true q168
        go_wp2
        go_roundg k2
        case measure => have := HJ3.out; have := HK2.out; omega
        case rel => exact ⟨(ji27), (ji28), (wrap64 (x9_2 + 1)), (by first | rfl | (simp; done) | (simp only [← hji27] <;> (first | rfl | simp)) | (simp [*]; done)), (by first | rfl | (simp; done) | (simp only [← hji28] <;> (first | rfl | simp)) | (simp [*]; done)), (by first | rfl | (simp; done) | (simp [*]; done)), H', ⟨by have := HJ3.out; have := HK2.out; omega⟩, ⟨by (with_reducible repeat (first | refine blk_drewN ?_ _ | refine blk_drew ?_ | refine blk_alloc ?_ _)); exact BK161.out⟩, ⟨by (with_reducible repeat (first | refine blk_drewN ?_ _ | refine blk_drew ?_ | refine blk_alloc ?_ _)); exact BK162.out⟩, ⟨by repeat (first | (with_reducible first | exact HB.out | apply below_alloc | apply pw_below_drewN | apply below_drew1 | refine below_set ?_ GE161.out | refine below_set ?_ GE162.out) | exact HB.out)⟩⟩
       ·rw [if_neg c26] at H
        exact absurd H (by simp)
      ·rw [if_neg c25] at H
       have c25b0 : decide (x9_2 < (l0_4.length : Int)) = false := decide_eq_false c25
       clear c25
       have H' := Aside0.mk H
       clear H
       have hnb31 := NB161_162.out
       have hnc31 := NB162_161.out
       have hcz32_0 : wr.cell? ⟨gb161, 0, none⟩ = some (.int .i64 a0_0) := (blk_cell BK161.out 0).trans rfl
       have hcz32_1 : wr.cell? ⟨gb161, 1, none⟩ = some (.int .i64 a0_1) := (blk_cell BK161.out 1).trans rfl
       have hcz32_2 : wr.cell? ⟨gb161, 2, none⟩ = some (.int .i64 a0_2) := (blk_cell BK161.out 2).trans rfl
       have hcz32_3 : wr.cell? ⟨gb161, 3, none⟩ = some (.int .i64 a0_3) := (blk_cell BK161.out 3).trans rfl
       have hcz32_4 : wr.cell? ⟨gb161, 4, none⟩ = some (.slice A0_4 l0_4.length c0_4) := (blk_cell BK161.out 4).trans rfl
       have hfz32_0 := blk_frozen BK161.out 0
       have hfz32_1 := blk_frozen BK161.out 1
       have hfz32_2 := blk_frozen BK161.out 2
       have hfz32_3 := blk_frozen BK161.out 3
       have hfz32_4 := blk_frozen BK161.out 4
       go_wp2
       go_loopg [7, 8, 10] k2 (fun kq v7 v8 v10 w' => ∃ (x7_3 : Int) (x8_3 : Int) (x10_3 : Int), v7 = .int .i64 x7_3 ∧ v8 = .int .i64 x8_3 ∧ v10 = .int .i64 x10_3 ∧ Aside0 (compositorlaw20_RiverTurns.l1 kq t163 t166 x7_3 x8_3 x10_3 a0_0 a0_1 a0_2 a0_3 l0_4 a1_0 a1_1 a1_2 a1_3 l1_4 = some r) ∧ Aside0 (kq ≤ k2) ∧ Aside0 (w'.heap[gb161]? = some (.cells #[.int .i64 a0_0, .int .i64 a0_1, .int .i64 a0_2, .int .i64 a0_3, (.slice A0_4 l0_4.length c0_4)] 24 (0, 0))) ∧ Aside0 (w'.heap[gb162]? = some (.cells #[.int .i64 a1_0, .int .i64 a1_1, .int .i64 a1_2, .int .i64 a1_3, (.slice A1_4 l1_4.length c1_4)] 24 (0, 0))) ∧ Aside0 (Below w.heap.size w w'))
       case atStart => exact ⟨(x7_2), (x8_2), (0), (by first | rfl | (simp; done) | (simp [*]; done)), (by first | rfl | (simp; done) | (simp [*]; done)), (by first | rfl | (simp; done) | (simp [*]; done)), H', ⟨Nat.le_refl _⟩, ⟨by (with_reducible repeat (first | refine blk_drewN ?_ _ | refine blk_drew ?_ | refine blk_alloc ?_ _)); exact BK161.out⟩, ⟨by (with_reducible repeat (first | refine blk_drewN ?_ _ | refine blk_drew ?_ | refine blk_alloc ?_ _)); exact BK162.out⟩, ⟨by repeat (first | (with_reducible first | exact HB.out | apply below_alloc | apply pw_below_drewN | apply below_drew1 | refine below_set ?_ GE161.out | refine below_set ?_ GE162.out) | exact HB.out)⟩⟩
       case round =>
        clear H'
        try clear c1
        try clear p1
        try clear q1
        try clear hx1
        try clear c2
        try clear p2
        try clear c3
        try clear c4
        try clear p6
        try clear c7
        try clear c8
        try clear c9
        try clear c11
        try clear c12
        try clear c16
        try clear p16
        try clear q16
        try clear hx16
        try clear c19
        try clear c21
        try clear c25
        try clear c25b0
        try clear c26
        try clear c26b0
        try clear c29
        try clear c31
        try clear hcz12_0
        try clear hcz12_1
        try clear hcz12_2
        try clear hcz12_3
        try clear hcz12_4
        try clear hcz14_0
        try clear hcz14_1
        try clear hcz14_2
        try clear hcz14_3
        try clear hcz14_4
        try clear hcz17_0
        try clear hcz17_1
        try clear hcz17_2
        try clear hcz17_3
        try clear hcz17_4
        try clear hcz22_0
        try clear hcz22_1
        try clear hcz22_2
        try clear hcz22_3
        try clear hcz22_4
        try clear hcz23_0
        try clear hcz23_1
        try clear hcz23_2
        try clear hcz23_3
        try clear hcz23_4
        try clear hcz30_0
        try clear hcz30_1
        try clear hcz30_2
        try clear hcz30_3
        try clear hcz30_4
        try clear hcz32_0
        try clear hcz32_1
        try clear hcz32_2
        try clear hcz32_3
        try clear hcz32_4
        try clear hfz12_0
        try clear hfz12_1
        try clear hfz12_2
        try clear hfz12_3
        try clear hfz12_4
        try clear hfz14_0
        try clear hfz14_1
        try clear hfz14_2
        try clear hfz14_3
        try clear hfz14_4
        try clear hfz17_0
        try clear hfz17_1
        try clear hfz17_2
        try clear hfz17_3
        try clear hfz17_4
        try clear hfz22_0
        try clear hfz22_1
        try clear hfz22_2
        try clear hfz22_3
        try clear hfz22_4
        try clear hfz23_0
        try clear hfz23_1
        try clear hfz23_2
        try clear hfz23_3
        try clear hfz23_4
        try clear hfz30_0
        try clear hfz30_1
        try clear hfz30_2
        try clear hfz30_3
        try clear hfz30_4
        try clear hfz32_0
        try clear hfz32_1
        try clear hfz32_2
        try clear hfz32_3
        try clear hfz32_4
        try clear hx167_0
        try clear hx167_1
        try clear hx168_0
        try clear hx168_1
        try clear p167
        try clear p168
        try clear p2
        try clear q167
        try clear q168
        obtain ⟨x7_3, x8_3, x10_3, rfl, rfl, rfl, HA, HK3, BK161, BK162, HB⟩ := hrel
        cases gk with
        | zero => exact absurd HA.out (by simp [compositorlaw20_RiverTurns.l1])
        | succ k3 =>
         have H := HA.out
         clear HA
         simp only [compositorlaw20_RiverTurns.l1] at H
         by_cases c33 : x10_3 < (l1_4.length : Int)
         ·rw [if_pos c33] at H
          have c33b0 : decide (x10_3 < (l1_4.length : Int)) = true := decide_eq_true c33
          clear c33
          by_cases c34 : 0 ≤ x10_3
          ·rw [if_pos c34] at H
           have c34b0 : decide (0 ≤ x10_3) = true := decide_eq_true c34
           clear c34
           obtain ⟨ji35, hji35⟩ : ∃ j_ : Int, (mx x7_3 ((rd_T33 l1_4 x10_3).f1)) = j_ := ⟨_, rfl⟩
           replace H : (compositorlaw20_RiverTurns.l1 k3 t163 t166 ji35 (mn x8_3 ((rd_T33 l1_4 x10_3).f1)) (wrap64 (x10_3 + 1)) a0_0 a0_1 a0_2 a0_3 l0_4 a1_0 a1_1 a1_2 a1_3 l1_4) = some r := by first | (rw [hji35] at H; exact H) | (simp only [hji35] at H ⊢; exact H)
           have hji35_ : (if x7_3 < ((rd_T33 l1_4 x10_3).f1) then ((rd_T33 l1_4 x10_3).f1) else x7_3) = ji35 := hji35
           obtain ⟨ji36, hji36⟩ : ∃ j_ : Int, (mn x8_3 ((rd_T33 l1_4 x10_3).f1)) = j_ := ⟨_, rfl⟩
           replace H : (compositorlaw20_RiverTurns.l1 k3 t163 t166 ji35 ji36 (wrap64 (x10_3 + 1)) a0_0 a0_1 a0_2 a0_3 l0_4 a1_0 a1_1 a1_2 a1_3 l1_4) = some r := by first | (rw [hji36] at H; exact H) | (simp only [hji36] at H ⊢; exact H)
           have hji36_ : (if ((rd_T33 l1_4 x10_3).f1) < x8_3 then ((rd_T33 l1_4 x10_3).f1) else x8_3) = ji36 := hji36
           have H' := Aside0.mk H
           clear H
           have hnb37 := NB162_161.out
           have hnc37 := NB161_162.out
           have hcz38_0 : wr.cell? ⟨gb162, 0, none⟩ = some (.int .i64 a1_0) := (blk_cell BK162.out 0).trans rfl
           have hcz38_1 : wr.cell? ⟨gb162, 1, none⟩ = some (.int .i64 a1_1) := (blk_cell BK162.out 1).trans rfl
           have hcz38_2 : wr.cell? ⟨gb162, 2, none⟩ = some (.int .i64 a1_2) := (blk_cell BK162.out 2).trans rfl
           have hcz38_3 : wr.cell? ⟨gb162, 3, none⟩ = some (.int .i64 a1_3) := (blk_cell BK162.out 3).trans rfl
           have hcz38_4 : wr.cell? ⟨gb162, 4, none⟩ = some (.slice A1_4 l1_4.length c1_4) := (blk_cell BK162.out 4).trans rfl
           have hfz38_0 := blk_frozen BK162.out 0
           have hfz38_1 := blk_frozen BK162.out 1
           have hfz38_2 := blk_frozen BK162.out 2
           have hfz38_3 := blk_frozen BK162.out 3
           have hfz38_4 := blk_frozen BK162.out 4
           have p169 : 0 ≤ (x10_3 : Int) := odt
           have q169 : x10_3 < (l1_4.length : Int) := odt
           obtain ⟨ad169, e169, hx169_0, hx169_1⟩ := at_T33 HR1_4.out x10_3 p169 q169
           cases e169
           replace hx169_0 := (HB.out.cell (World.block_lt_of_cell? w _ hx169_0)).trans hx169_0
           replace hx169_1 := (HB.out.cell (World.block_lt_of_cell? w _ hx169_1)).trans hx169_1
           replace p169 := eq_true p169
           replace q169 := eq_true q169
           have p170 : 0 ≤ (x10_3 : Int) := odt
           have q170 : x10_3 < (l1_4.length : Int) := odt
           obtain ⟨ad170, e170, hx170_0, hx170_1⟩ := at_T33 HR1_4.out x10_3 p170 q170
           obtain rfl : ad169 = ad170 := (by injection e170)
           replace hx170_0 := (HB.out.cell (World.block_lt_of_cell? w _ hx170_0)).trans hx170_0
           replace hx170_1 := (HB.out.cell (World.block_lt_of_cell? w _ hx170_1)).trans hx170_1
           replace p170 := eq_true p170
           replace q170 := eq_true q170
           go_wp2
           go_roundg k3
           case measure => have := HJ3.out; have := HK2.out; have := HK3.out; omega
           case rel => exact ⟨(ji35), (ji36), (wrap64 (x10_3 + 1)), (by first | rfl | (simp; done) | (simp only [← hji35] <;> (first | rfl | simp)) | (simp [*]; done)), (by first | rfl | (simp; done) | (simp only [← hji36] <;> (first | rfl | simp)) | (simp [*]; done)), (by first | rfl | (simp; done) | (simp [*]; done)), H', ⟨by have := HJ3.out; have := HK2.out; have := HK3.out; omega⟩, ⟨by (with_reducible repeat (first | refine blk_drewN ?_ _ | refine blk_drew ?_ | refine blk_alloc ?_ _)); exact BK161.out⟩, ⟨by (with_reducible repeat (first | refine blk_drewN ?_ _ | refine blk_drew ?_ | refine blk_alloc ?_ _)); exact BK162.out⟩, ⟨by repeat (first | (with_reducible first | exact HB.out | apply below_alloc | apply pw_below_drewN | apply below_drew1 | refine below_set ?_ GE161.out | refine below_set ?_ GE162.out) | exact HB.out)⟩⟩
          ·rw [if_neg c34] at H
           exact absurd H (by simp)
         ·rw [if_neg c33] at H
          have c33b0 : decide (x10_3 < (l1_4.length : Int)) = false := decide_eq_false c33
          clear c33
          obtain ⟨ji39, hji39⟩ : ∃ j_ : Int, (mx x7_3 a0_2) = j_ := ⟨_, rfl⟩
          replace H : ((river_Gaps.f k3 a0_0 a0_1 a0_2 a0_3 l0_4).bind fun t171 => ((river_Gaps.f k3 a1_0 a1_1 a1_2 a1_3 l1_4).bind fun t174 => (if (mx (ji39) a1_2) > 1099511627776 then (compositorlaw20_RiverTurns.j3 k3 t163 t166 (mx (ji39) a1_2) (mn (mn x8_3 a0_2) a1_2) (wrap64 ((t171.length : Int) * (t174.length : Int))) true a0_0 a0_1 a0_2 a0_3 l0_4 a1_0 a1_1 a1_2 a1_3 l1_4) else (compositorlaw20_RiverTurns.j3 k3 t163 t166 (mx (ji39) a1_2) (mn (mn x8_3 a0_2) a1_2) (wrap64 ((t171.length : Int) * (t174.length : Int))) (decide ((mn (mn x8_3 a0_2) a1_2) < (-1099511627776))) a0_0 a0_1 a0_2 a0_3 l0_4 a1_0 a1_1 a1_2 a1_3 l1_4)))) = some r := by first | (rw [hji39] at H; exact H) | (simp only [hji39] at H ⊢; exact H)
          have hji39_ : (if x7_3 < a0_2 then a0_2 else x7_3) = ji39 := hji39
          obtain ⟨ji40, hji40⟩ : ∃ j_ : Int, (mx (ji39) a1_2) = j_ := ⟨_, rfl⟩
          replace H : ((river_Gaps.f k3 a0_0 a0_1 a0_2 a0_3 l0_4).bind fun t171 => ((river_Gaps.f k3 a1_0 a1_1 a1_2 a1_3 l1_4).bind fun t174 => (if (ji40) > 1099511627776 then (compositorlaw20_RiverTurns.j3 k3 t163 t166 ji40 (mn (mn x8_3 a0_2) a1_2) (wrap64 ((t171.length : Int) * (t174.length : Int))) true a0_0 a0_1 a0_2 a0_3 l0_4 a1_0 a1_1 a1_2 a1_3 l1_4) else (compositorlaw20_RiverTurns.j3 k3 t163 t166 ji40 (mn (mn x8_3 a0_2) a1_2) (wrap64 ((t171.length : Int) * (t174.length : Int))) (decide ((mn (mn x8_3 a0_2) a1_2) < (-1099511627776))) a0_0 a0_1 a0_2 a0_3 l0_4 a1_0 a1_1 a1_2 a1_3 l1_4)))) = some r := by first | (rw [hji40] at H; exact H) | (simp only [hji40] at H ⊢; exact H)
          have hji40_ : (if (ji39) < a1_2 then a1_2 else (ji39)) = ji40 := hji40
          obtain ⟨ji41, hji41⟩ : ∃ j_ : Int, (mn x8_3 a0_2) = j_ := ⟨_, rfl⟩
          replace H : ((river_Gaps.f k3 a0_0 a0_1 a0_2 a0_3 l0_4).bind fun t171 => ((river_Gaps.f k3 a1_0 a1_1 a1_2 a1_3 l1_4).bind fun t174 => (if (ji40) > 1099511627776 then (compositorlaw20_RiverTurns.j3 k3 t163 t166 ji40 (mn (ji41) a1_2) (wrap64 ((t171.length : Int) * (t174.length : Int))) true a0_0 a0_1 a0_2 a0_3 l0_4 a1_0 a1_1 a1_2 a1_3 l1_4) else (compositorlaw20_RiverTurns.j3 k3 t163 t166 ji40 (mn (ji41) a1_2) (wrap64 ((t171.length : Int) * (t174.length : Int))) (decide ((mn (ji41) a1_2) < (-1099511627776))) a0_0 a0_1 a0_2 a0_3 l0_4 a1_0 a1_1 a1_2 a1_3 l1_4)))) = some r := by first | (rw [hji41] at H; exact H) | (simp only [hji41] at H ⊢; exact H)
          have hji41_ : (if a0_2 < x8_3 then a0_2 else x8_3) = ji41 := hji41
          obtain ⟨ji42, hji42⟩ : ∃ j_ : Int, (mn (ji41) a1_2) = j_ := ⟨_, rfl⟩
          replace H : ((river_Gaps.f k3 a0_0 a0_1 a0_2 a0_3 l0_4).bind fun t171 => ((river_Gaps.f k3 a1_0 a1_1 a1_2 a1_3 l1_4).bind fun t174 => (if (ji40) > 1099511627776 then (compositorlaw20_RiverTurns.j3 k3 t163 t166 ji40 ji42 (wrap64 ((t171.length : Int) * (t174.length : Int))) true a0_0 a0_1 a0_2 a0_3 l0_4 a1_0 a1_1 a1_2 a1_3 l1_4) else (compositorlaw20_RiverTurns.j3 k3 t163 t166 ji40 ji42 (wrap64 ((t171.length : Int) * (t174.length : Int))) (decide ((ji42) < (-1099511627776))) a0_0 a0_1 a0_2 a0_3 l0_4 a1_0 a1_1 a1_2 a1_3 l1_4)))) = some r := by first | (rw [hji42] at H; exact H) | (simp only [hji42] at H ⊢; exact H)
          have hji42_ : (if a1_2 < (ji41) then a1_2 else (ji41)) = ji42 := hji42
          replace H := Option.bind_eq_some_iff.mp H
          obtain ⟨t171, A430, H⟩ := H
          replace H : ((river_Gaps.f k3 a1_0 a1_1 a1_2 a1_3 l1_4).bind fun t174 => (if (ji40) > 1099511627776 then (compositorlaw20_RiverTurns.j3 k3 t163 t166 ji40 ji42 (wrap64 ((t171.length : Int) * (t174.length : Int))) true a0_0 a0_1 a0_2 a0_3 l0_4 a1_0 a1_1 a1_2 a1_3 l1_4) else (compositorlaw20_RiverTurns.j3 k3 t163 t166 ji40 ji42 (wrap64 ((t171.length : Int) * (t174.length : Int))) (decide ((ji42) < (-1099511627776))) a0_0 a0_1 a0_2 a0_3 l0_4 a1_0 a1_1 a1_2 a1_3 l1_4))) = some r := H
          have A43 := Aside0.mk A430
          clear A430
          replace H := Option.bind_eq_some_iff.mp H
          obtain ⟨t174, A440, H⟩ := H
          replace H : (if (ji40) > 1099511627776 then (compositorlaw20_RiverTurns.j3 k3 t163 t166 ji40 ji42 (wrap64 ((t171.length : Int) * (t174.length : Int))) true a0_0 a0_1 a0_2 a0_3 l0_4 a1_0 a1_1 a1_2 a1_3 l1_4) else (compositorlaw20_RiverTurns.j3 k3 t163 t166 ji40 ji42 (wrap64 ((t171.length : Int) * (t174.length : Int))) (decide ((ji42) < (-1099511627776))) a0_0 a0_1 a0_2 a0_3 l0_4 a1_0 a1_1 a1_2 a1_3 l1_4)) = some r := H
          have A44 := Aside0.mk A440
          clear A440
          have HC45 := Aside0.mk H
          clear H
          have hnb46 := NB162_161.out
          have hnc46 := NB161_162.out
          have hcz47_0 : wr.cell? ⟨gb162, 0, none⟩ = some (.int .i64 a1_0) := (blk_cell BK162.out 0).trans rfl
          have hcz47_1 : wr.cell? ⟨gb162, 1, none⟩ = some (.int .i64 a1_1) := (blk_cell BK162.out 1).trans rfl
          have hcz47_2 : wr.cell? ⟨gb162, 2, none⟩ = some (.int .i64 a1_2) := (blk_cell BK162.out 2).trans rfl
          have hcz47_3 : wr.cell? ⟨gb162, 3, none⟩ = some (.int .i64 a1_3) := (blk_cell BK162.out 3).trans rfl
          have hcz47_4 : wr.cell? ⟨gb162, 4, none⟩ = some (.slice A1_4 l1_4.length c1_4) := (blk_cell BK162.out 4).trans rfl
          have hfz47_0 := blk_frozen BK162.out 0
          have hfz47_1 := blk_frozen BK162.out 1
          have hfz47_2 := blk_frozen BK162.out 2
          have hfz47_3 := blk_frozen BK162.out 3
          have hfz47_4 := blk_frozen BK162.out 4
          have hcz48_0 : wr.cell? ⟨gb161, 0, none⟩ = some (.int .i64 a0_0) := (blk_cell BK161.out 0).trans rfl
          have hcz48_1 : wr.cell? ⟨gb161, 1, none⟩ = some (.int .i64 a0_1) := (blk_cell BK161.out 1).trans rfl
          have hcz48_2 : wr.cell? ⟨gb161, 2, none⟩ = some (.int .i64 a0_2) := (blk_cell BK161.out 2).trans rfl
          have hcz48_3 : wr.cell? ⟨gb161, 3, none⟩ = some (.int .i64 a0_3) := (blk_cell BK161.out 3).trans rfl
          have hcz48_4 : wr.cell? ⟨gb161, 4, none⟩ = some (.slice A0_4 l0_4.length c0_4) := (blk_cell BK161.out 4).trans rfl
          have hfz48_0 := blk_frozen BK161.out 0
          have hfz48_1 := blk_frozen BK161.out 1
          have hfz48_2 := blk_frozen BK161.out 2
          have hfz48_3 := blk_frozen BK161.out 3
          have hfz48_4 := blk_frozen BK161.out 4
          try go_wp2
          have n0_ := Aside0.mk (blk_drew BK161.out)
          have n1_ := Aside0.mk (blk_drew BK162.out)
          have n2_ := Aside0.mk (below_drew1 HB.out)
          clear BK161
          clear BK162
          clear HB
          have BK161 := n0_
          have BK162 := n1_
          have HB := n2_
          clear n0_ n1_ n2_
          refine start_ (n := 8) (S := fun w' => w'.cell? ⟨gb161, 0, none⟩ = some (.int .i64 a0_0) ∧ w'.cell? ⟨gb161, 1, none⟩ = some (.int .i64 a0_1) ∧ w'.cell? ⟨gb161, 2, none⟩ = some (.int .i64 a0_2) ∧ w'.cell? ⟨gb161, 3, none⟩ = some (.int .i64 a0_3) ∧ w'.cell? ⟨gb161, 4, none⟩ = some (.slice A0_4 l0_4.length c0_4) ∧ w'.cell? ⟨gb162, 0, none⟩ = some (.int .i64 a1_0) ∧ w'.cell? ⟨gb162, 1, none⟩ = some (.int .i64 a1_1) ∧ w'.cell? ⟨gb162, 2, none⟩ = some (.int .i64 a1_2) ∧ w'.cell? ⟨gb162, 3, none⟩ = some (.int .i64 a1_3) ∧ w'.cell? ⟨gb162, 4, none⟩ = some (.slice A1_4 l1_4.length c1_4)) (ds := []) #[false, false, false, false, false, false, false, false] (by kernel_rfl) rfl rfl ⟨(blk_cell BK161.out 0).trans rfl, (blk_cell BK161.out 1).trans rfl, (blk_cell BK161.out 2).trans rfl, (blk_cell BK161.out 3).trans rfl, (blk_cell BK161.out 4).trans rfl, (blk_cell BK162.out 0).trans rfl, (blk_cell BK162.out 1).trans rfl, (blk_cell BK162.out 2).trans rfl, (blk_cell BK162.out 3).trans rfl, (blk_cell BK162.out 4).trans rfl⟩ (fun hHeld => ?_); refine with_tabW compositorlaw20_RiverTurns.tab19 compositorlaw20_RiverTurns.bits19 (fun HT_ HW_ => ?_)
          generalize wr.drew = w49 at BK161 BK162 HB hHeld ⊢
          refine take_ (i := 0) (N := some 85) (v := ?_) (a' := ?_) #[true, false, false, false, false, false, false, false] rfl rfl (take_ofW HT_.out HW_.out (by kernel_rfl)) (fun _ _ _ h => h) (Or.inl ⟨by rfl, ?_⟩) hHeld ?_ ?_
          rotate_left
          ·rintro w' ⟨s0, s1, s2, s3, s4, s5, s6, s7, s8, s9⟩
           go_simp
           with_reducible rfl
          rotate_left
          ·simp only [Act.put, List.setIfInBounds_toArray, List.set_cons_zero, List.set_cons_succ, i64_w, i32_w]
           rfl
          refine take_ (i := 3) (N := some 88) (v := ?_) (a' := ?_) #[true, false, false, true, false, false, false, false] rfl rfl (take_ofW HT_.out HW_.out (by kernel_rfl)) (fun _ _ _ h => h) (Or.inl ⟨by rfl, ?_⟩) hHeld ?_ ?_
          rotate_left
          ·rintro w' ⟨s0, s1, s2, s3, s4, s5, s6, s7, s8, s9⟩
           go_simp
           with_reducible rfl
          rotate_left
          ·simp only [Act.put, List.setIfInBounds_toArray, List.set_cons_zero, List.set_cons_succ, i64_w, i32_w]
           rfl
          refine one_ (i := 1) (N := some 86) #[true, true, false, true, false, false, false, false] rfl rfl (one_of HT_.out (by kernel_rfl)) (by decide) (fun K hK => ?_)
          refine goes_ Try.func10 (by kernel_rfl) rfl #[.agg #[.int .i64 a0_0, .int .i64 a0_1, .int .i64 a0_2, .int .i64 a0_3, .slice A0_4 l0_4.length c0_4]] (by rfl) rfl rfl (by (try simp only [List.map_toArray, List.map_cons, List.map_nil]); first | done | rfl | (simp only [List.length_drop, List.length_take]; rfl)) ?_
          with_reducible refine (river_Gaps.calls k3 a0_0 a0_1 a0_2 a0_3 _ _ l0_4 t171 _ ?side1 ?side2 A43.out).mono ?_
          (case side1 => repeat (first | exact (Kd.C_below HR0_4.out HB.out) | (with_reducible apply Kd.C_alloc) | (with_reducible apply Kd.C_drewN) | (with_reducible apply Kd.C_drew)))
          (case side2 => exact HC0_4.out)
          rintro e w50 ⟨v172, rfl, ho0, hb⟩
          refine ⟨_, rfl, ?_⟩
          have n0_ := Aside0.mk (Kd.R_lower ho0 (below_size (by repeat (first | (with_reducible first | exact HB.out | apply below_alloc | apply pw_below_drewN | apply below_drew1 | refine below_set ?_ GE161.out | refine below_set ?_ GE162.out) | exact HB.out))))
          have n1_ := Aside0.mk (blk_below (g := gb161) (o := .cells #[.int .i64 a0_0, .int .i64 a0_1, .int .i64 a0_2, .int .i64 a0_3, .slice A0_4 l0_4.length c0_4] 24 (0, 0)) (by (with_reducible repeat (first | refine blk_drewN ?_ _ | refine blk_drew ?_ | refine blk_alloc ?_ _)); exact BK161.out) hb)
          have n2_ := Aside0.mk (blk_below (g := gb162) (o := .cells #[.int .i64 a1_0, .int .i64 a1_1, .int .i64 a1_2, .int .i64 a1_3, .slice A1_4 l1_4.length c1_4] 24 (0, 0)) (by (with_reducible repeat (first | refine blk_drewN ?_ _ | refine blk_drew ?_ | refine blk_alloc ?_ _)); exact BK162.out) hb)
          have n3_ := Aside0.mk (below_step (by repeat (first | (with_reducible first | exact HB.out | apply below_alloc | apply pw_below_drewN | apply below_drew1 | refine below_set ?_ GE161.out | refine below_set ?_ GE162.out) | exact HB.out)) hb)
          clear BK161
          clear BK162
          clear HB
          have HO173 := n0_
          have BK161 := n1_
          have BK162 := n2_
          have HB := n3_
          clear n0_ n1_ n2_ n3_
          (try clear hb)
          (try clear hb2)
          (try clear hk)
          (try clear hi)
          (try clear ho0)
          obtain ⟨Ao51, co51, eo51⟩ := Kd.R_slice HO173.out
          (first | subst eo51 | (injection eo51 with f1_ f2_ f3_; have f4_ := f1_.symm; have f5_ := f3_.symm; clear f1_ f2_ f3_; subst f4_; subst f5_))
          refine hK.out _ _ ⟨(blk_cell BK161.out 0).trans rfl, (blk_cell BK161.out 1).trans rfl, (blk_cell BK161.out 2).trans rfl, (blk_cell BK161.out 3).trans rfl, (blk_cell BK161.out 4).trans rfl, (blk_cell BK162.out 0).trans rfl, (blk_cell BK162.out 1).trans rfl, (blk_cell BK162.out 2).trans rfl, (blk_cell BK162.out 3).trans rfl, (blk_cell BK162.out 4).trans rfl⟩ (fun hHeld => ?_)
          clear hK K
          refine norm_ (a' := ?_) ?_ ?_
          rotate_left
          ·show Act.put _ (some 86) _ = _
           simp only [Act.put, List.setIfInBounds_toArray, List.set_cons_zero, List.set_cons_succ, i64_w, i32_w]
           rfl
          refine pure_ (i := 2) (N := some 87) (v := ?_) (a' := ?_) #[true, true, true, true, false, false, false, false] rfl rfl (any_of HT_.out (by kernel_rfl)) (fun _ _ _ h => h) (Or.inl ⟨by rfl, ?_⟩) ?_ ?_
          rotate_left
          ·intro w'
           go_simp
           with_reducible rfl
          rotate_left
          ·simp only [Act.put, List.setIfInBounds_toArray, List.set_cons_zero, List.set_cons_succ, i64_w, i32_w]
           rfl
          refine one_ (i := 4) (N := some 89) #[true, true, true, true, true, false, false, false] rfl rfl (one_of HT_.out (by kernel_rfl)) (by decide) (fun K hK => ?_)
          refine goes_ Try.func10 (by kernel_rfl) rfl #[.agg #[.int .i64 a1_0, .int .i64 a1_1, .int .i64 a1_2, .int .i64 a1_3, .slice A1_4 l1_4.length c1_4]] (by rfl) rfl rfl (by (try simp only [List.map_toArray, List.map_cons, List.map_nil]); first | done | rfl | (simp only [List.length_drop, List.length_take]; rfl)) ?_
          with_reducible refine (river_Gaps.calls k3 a1_0 a1_1 a1_2 a1_3 _ _ l1_4 t174 _ ?side1 ?side2 A44.out).mono ?_
          (case side1 => repeat (first | exact (Kd.C_below HR1_4.out HB.out) | (with_reducible apply Kd.C_alloc) | (with_reducible apply Kd.C_drewN) | (with_reducible apply Kd.C_drew)))
          (case side2 => exact HC1_4.out)
          rintro e w52 ⟨v175, rfl, ho0, hb⟩
          refine ⟨_, rfl, ?_⟩
          have n0_ := Aside0.mk (Kd.R_elder' (by (with_reducible repeat (first | apply Kd.R_alloc | apply Kd.R_drewN | apply Kd.R_drew)); exact HO173.out) (Kd.R_base ho0) hb)
          have n1_ := Aside0.mk (Kd.R_lower (Kd.R_new' ho0 (Kd.R_lt (by (with_reducible repeat (first | apply Kd.R_alloc | apply Kd.R_drewN | apply Kd.R_drew)); exact HO173.out))) (below_size (by repeat (first | (with_reducible first | exact HB.out | apply below_alloc | apply pw_below_drewN | apply below_drew1 | refine below_set ?_ GE161.out | refine below_set ?_ GE162.out) | exact HB.out))))
          have n2_ := Aside0.mk (blk_below (g := gb161) (o := .cells #[.int .i64 a0_0, .int .i64 a0_1, .int .i64 a0_2, .int .i64 a0_3, .slice A0_4 l0_4.length c0_4] 24 (0, 0)) (by (with_reducible repeat (first | refine blk_drewN ?_ _ | refine blk_drew ?_ | refine blk_alloc ?_ _)); exact BK161.out) hb)
          have n3_ := Aside0.mk (blk_below (g := gb162) (o := .cells #[.int .i64 a1_0, .int .i64 a1_1, .int .i64 a1_2, .int .i64 a1_3, .slice A1_4 l1_4.length c1_4] 24 (0, 0)) (by (with_reducible repeat (first | refine blk_drewN ?_ _ | refine blk_drew ?_ | refine blk_alloc ?_ _)); exact BK162.out) hb)
          have n4_ := Aside0.mk (below_step (by repeat (first | (with_reducible first | exact HB.out | apply below_alloc | apply pw_below_drewN | apply below_drew1 | refine below_set ?_ GE161.out | refine below_set ?_ GE162.out) | exact HB.out)) hb)
          clear HO173
          clear BK161
          clear BK162
          clear HB
          have HO173 := n0_
          have HO176 := n1_
          have BK161 := n2_
          have BK162 := n3_
          have HB := n4_
          clear n0_ n1_ n2_ n3_ n4_
          (try clear hb)
          (try clear hb2)
          (try clear hk)
          (try clear hi)
          (try clear ho0)
          obtain ⟨Ao53, co53, eo53⟩ := Kd.R_slice HO176.out
          (first | subst eo53 | (injection eo53 with f1_ f2_ f3_; have f4_ := f1_.symm; have f5_ := f3_.symm; clear f1_ f2_ f3_; subst f4_; subst f5_))
          refine hK.out _ _ ⟨(blk_cell BK161.out 0).trans rfl, (blk_cell BK161.out 1).trans rfl, (blk_cell BK161.out 2).trans rfl, (blk_cell BK161.out 3).trans rfl, (blk_cell BK161.out 4).trans rfl, (blk_cell BK162.out 0).trans rfl, (blk_cell BK162.out 1).trans rfl, (blk_cell BK162.out 2).trans rfl, (blk_cell BK162.out 3).trans rfl, (blk_cell BK162.out 4).trans rfl⟩ (fun hHeld => ?_)
          clear hK K
          refine norm_ (a' := ?_) ?_ ?_
          rotate_left
          ·show Act.put _ (some 89) _ = _
           simp only [Act.put, List.setIfInBounds_toArray, List.set_cons_zero, List.set_cons_succ, i64_w, i32_w]
           rfl
          refine pure_ (i := 5) (N := some 90) (v := ?_) (a' := ?_) #[true, true, true, true, true, true, false, false] rfl rfl (any_of HT_.out (by kernel_rfl)) (fun _ _ _ h => h) (Or.inl ⟨by rfl, ?_⟩) ?_ ?_
          rotate_left
          ·intro w'
           go_simp
           with_reducible rfl
          rotate_left
          ·simp only [Act.put, List.setIfInBounds_toArray, List.set_cons_zero, List.set_cons_succ, i64_w, i32_w]
           rfl
          refine pure_ (i := 6) (N := some 91) (v := ?_) (a' := ?_) #[true, true, true, true, true, true, true, false] rfl rfl (any_of HT_.out (by kernel_rfl)) (fun _ _ _ h => h) (Or.inl ⟨by rfl, ?_⟩) ?_ ?_
          rotate_left
          ·intro w'
           go_simp
           with_reducible rfl
          rotate_left
          ·simp only [Act.put, List.setIfInBounds_toArray, List.set_cons_zero, List.set_cons_succ, i64_w, i32_w]
           rfl
          refine pure_ (i := 7) (N := some 11) (v := ?_) (a' := ?_) #[true, true, true, true, true, true, true, true] rfl rfl (any_of HT_.out (by kernel_rfl)) (fun _ _ _ h => h) (Or.inl ⟨by rfl, ?_⟩) ?_ ?_
          rotate_left
          ·intro w'
           go_simp
           with_reducible rfl
          rotate_left
          ·simp only [Act.put, List.setIfInBounds_toArray, List.set_cons_zero, List.set_cons_succ, i64_w, i32_w]
           rfl
          refine done_ (done_of HT_.out (by kernel_rfl)) ?_
          go_upto_region 20 with (fail)
          go_cut [97] (fun v97 wc => ∃ (kq : Nat) (x97_44 : Bool), v97 = .bool x97_44 ∧ Aside0 (compositorlaw20_RiverTurns.j3 kq t163 t166 ji40 ji42 (wrap64 ((t171.length : Int) * (t174.length : Int))) x97_44 a0_0 a0_1 a0_2 a0_3 l0_4 a1_0 a1_1 a1_2 a1_3 l1_4 = some r) ∧ Aside0 (kq ≤ k3) ∧ Aside0 (wc.heap[gb161]? = some (.cells #[.int .i64 a0_0, .int .i64 a0_1, .int .i64 a0_2, .int .i64 a0_3, (.slice A0_4 l0_4.length c0_4)] 24 (0, 0))) ∧ Aside0 (wc.heap[gb162]? = some (.cells #[.int .i64 a1_0, .int .i64 a1_1, .int .i64 a1_2, .int .i64 a1_3, (.slice A1_4 l1_4.length c1_4)] 24 (0, 0))) ∧ Aside0 (Below w.heap.size w wc))
          case first => as_aux_lemma =>
           have H := HC45.out
           clear HC45
           by_cases c54 : (ji40) > 1099511627776
           ·rw [if_pos c54] at H
            have c54b0 : decide (1099511627776 < (ji40)) = true := decide_eq_true c54
            clear c54
            (first | rw [c54b0] | (simp only [i64_w, i32_w]; rw [c54b0]) | skip)
            have H' := Aside0.mk H
            clear H
            go_wp2
            go_meet
            case rel => exact ⟨_, (true), (by first | rfl | (simp; done) | (simp [*]; done)), H', ⟨by have := HJ3.out; have := HK2.out; have := HK3.out; first | omega | exact Nat.le_refl _⟩, ⟨by (with_reducible repeat (first | refine blk_drewN ?_ _ | refine blk_drew ?_ | refine blk_alloc ?_ _)); exact BK161.out⟩, ⟨by (with_reducible repeat (first | refine blk_drewN ?_ _ | refine blk_drew ?_ | refine blk_alloc ?_ _)); exact BK162.out⟩, ⟨by repeat (first | (with_reducible first | exact HB.out | apply below_alloc | apply pw_below_drewN | apply below_drew1 | refine below_set ?_ GE161.out | refine below_set ?_ GE162.out) | exact HB.out)⟩⟩
           ·rw [if_neg c54] at H
            have c54b0 : decide (1099511627776 < (ji40)) = false := decide_eq_false c54
            clear c54
            (first | rw [c54b0] | (simp only [i64_w, i32_w]; rw [c54b0]) | skip)
            have H' := Aside0.mk H
            clear H
            go_wp2
            go_meet
            case rel => exact ⟨_, (decide ((ji42) < (-1099511627776))), (by first | rfl | (simp; done) | (simp only [← hji42] <;> (first | rfl | simp)) | (simp [*]; done)), H', ⟨by have := HJ3.out; have := HK2.out; have := HK3.out; first | omega | exact Nat.le_refl _⟩, ⟨by (with_reducible repeat (first | refine blk_drewN ?_ _ | refine blk_drew ?_ | refine blk_alloc ?_ _)); exact BK161.out⟩, ⟨by (with_reducible repeat (first | refine blk_drewN ?_ _ | refine blk_drew ?_ | refine blk_alloc ?_ _)); exact BK162.out⟩, ⟨by repeat (first | (with_reducible first | exact HB.out | apply below_alloc | apply pw_below_drewN | apply below_drew1 | refine below_set ?_ GE161.out | refine below_set ?_ GE162.out) | exact HB.out)⟩⟩
          case rest => as_aux_lemma =>
           clear HC45
           try clear c1
           try clear p1
           try clear q1
           try clear hx1
           try clear c2
           try clear p2
           try clear c3
           try clear c4
           try clear c5
           try clear p6
           try clear c7
           try clear c8
           try clear c9
           try clear c10
           try clear c11
           try clear c12
           try clear c16
           try clear p16
           try clear q16
           try clear hx16
           try clear p17
           try clear q17
           try clear hx17
           try clear c19
           try clear c21
           try clear c25
           try clear c25b0
           try clear c26
           try clear c26b0
           try clear c29
           try clear c31
           try clear c33
           try clear c33b0
           try clear c34
           try clear c34b0
           try clear c37
           try clear c46
           try clear c54
           try clear c54b0
           try clear hcz12_0
           try clear hcz12_1
           try clear hcz12_2
           try clear hcz12_3
           try clear hcz12_4
           try clear hcz14_0
           try clear hcz14_1
           try clear hcz14_2
           try clear hcz14_3
           try clear hcz14_4
           try clear hcz17_0
           try clear hcz17_1
           try clear hcz17_2
           try clear hcz17_3
           try clear hcz17_4
           try clear hcz22_0
           try clear hcz22_1
           try clear hcz22_2
           try clear hcz22_3
           try clear hcz22_4
           try clear hcz23_0
           try clear hcz23_1
           try clear hcz23_2
           try clear hcz23_3
           try clear hcz23_4
           try clear hcz30_0
           try clear hcz30_1
           try clear hcz30_2
           try clear hcz30_3
           try clear hcz30_4
           try clear hcz32_0
           try clear hcz32_1
           try clear hcz32_2
           try clear hcz32_3
           try clear hcz32_4
           try clear hcz38_0
           try clear hcz38_1
           try clear hcz38_2
           try clear hcz38_3
           try clear hcz38_4
           try clear hcz47_0
           try clear hcz47_1
           try clear hcz47_2
           try clear hcz47_3
           try clear hcz47_4
           try clear hcz48_0
           try clear hcz48_1
           try clear hcz48_2
           try clear hcz48_3
           try clear hcz48_4
           try clear hfz12_0
           try clear hfz12_1
           try clear hfz12_2
           try clear hfz12_3
           try clear hfz12_4
           try clear hfz14_0
           try clear hfz14_1
           try clear hfz14_2
           try clear hfz14_3
           try clear hfz14_4
           try clear hfz17_0
           try clear hfz17_1
           try clear hfz17_2
           try clear hfz17_3
           try clear hfz17_4
           try clear hfz22_0
           try clear hfz22_1
           try clear hfz22_2
           try clear hfz22_3
           try clear hfz22_4
           try clear hfz23_0
           try clear hfz23_1
           try clear hfz23_2
           try clear hfz23_3
           try clear hfz23_4
           try clear hfz30_0
           try clear hfz30_1
           try clear hfz30_2
           try clear hfz30_3
           try clear hfz30_4
           try clear hfz32_0
           try clear hfz32_1
           try clear hfz32_2
           try clear hfz32_3
           try clear hfz32_4
           try clear hfz38_0
           try clear hfz38_1
           try clear hfz38_2
           try clear hfz38_3
           try clear hfz38_4
           try clear hfz47_0
           try clear hfz47_1
           try clear hfz47_2
           try clear hfz47_3
           try clear hfz47_4
           try clear hfz48_0
           try clear hfz48_1
           try clear hfz48_2
           try clear hfz48_3
           try clear hfz48_4
           try clear hx167_0
           try clear hx167_1
           try clear hx168_0
           try clear hx168_1
           try clear hx169_0
           try clear hx169_1
           try clear hx170_0
           try clear hx170_1
           try clear p1
           try clear p16
           try clear p167
           try clear p168
           try clear p169
           try clear p170
           try clear p2
           try clear p6
           try clear q1
           try clear q16
           try clear q167
           try clear q168
           try clear q169
           try clear q170
           obtain ⟨kq, x97_44, rfl, HA, HJ44, BK161, BK162, HB⟩ := hcut
           cases kq with
           | zero => exact absurd HA.out (by simp [compositorlaw20_RiverTurns.j3])
           | succ kj44 =>
            have H := HA.out
            clear HA
            simp only [compositorlaw20_RiverTurns.j3] at H
            by_cases c55 : x97_44 = true
            ·subst c55
             have H1 : (if t163 = true then ((river_Count.f a1_0 a1_1 a1_2 a1_3 l1_4 a0_0 a0_1 a0_2 a0_3 l0_4).bind fun t177 => (if t166 = t177 then (if t166 ≥ 0 then (some (decide (t166 ≤ (wrap64 ((t171.length : Int) * (t174.length : Int)))))) else (none)) else (none))) else (none)) = some r := by rw [if_pos rfl] at H; exact H
             clear H
             have H := H1
             clear H1
             by_cases c56 : t163 = true
             ·subst c56
              have H1 : ((river_Count.f a1_0 a1_1 a1_2 a1_3 l1_4 a0_0 a0_1 a0_2 a0_3 l0_4).bind fun t177 => (if t166 = t177 then (if t166 ≥ 0 then (some (decide (t166 ≤ (wrap64 ((t171.length : Int) * (t174.length : Int)))))) else (none)) else (none))) = some r := by rw [if_pos rfl] at H; exact H
              clear H
              have H := H1
              clear H1
              replace H := Option.bind_eq_some_iff.mp H
              obtain ⟨t177, A570, H⟩ := H
              replace H : (if t166 = t177 then (if t166 ≥ 0 then (some (decide (t166 ≤ (wrap64 ((t171.length : Int) * (t174.length : Int)))))) else (none)) else (none)) = some r := H
              have A57 := Aside0.mk A570
              clear A570
              by_cases c58 : t166 = t177
              ·rw [if_pos c58] at H
               have c58b0 : (t166 == t177) = true := beq_iff_eq.mpr c58
               have c58b1 : (t166 != t177) = false := bne_eq_false_iff_eq.mpr c58
               clear c58
               by_cases c59 : t166 ≥ 0
               ·rw [if_pos c59] at H
                have c59b0 : decide (0 ≤ t166) = true := decide_eq_true c59
                clear c59
                obtain rfl := Option.some.inj H
                have hnb60 := NB162_161.out
                have hnc60 := NB161_162.out
                have hcz61_0 : wc.cell? ⟨gb162, 0, none⟩ = some (.int .i64 a1_0) := (blk_cell BK162.out 0).trans rfl
                have hcz61_1 : wc.cell? ⟨gb162, 1, none⟩ = some (.int .i64 a1_1) := (blk_cell BK162.out 1).trans rfl
                have hcz61_2 : wc.cell? ⟨gb162, 2, none⟩ = some (.int .i64 a1_2) := (blk_cell BK162.out 2).trans rfl
                have hcz61_3 : wc.cell? ⟨gb162, 3, none⟩ = some (.int .i64 a1_3) := (blk_cell BK162.out 3).trans rfl
                have hcz61_4 : wc.cell? ⟨gb162, 4, none⟩ = some (.slice A1_4 l1_4.length c1_4) := (blk_cell BK162.out 4).trans rfl
                have hfz61_0 := blk_frozen BK162.out 0
                have hfz61_1 := blk_frozen BK162.out 1
                have hfz61_2 := blk_frozen BK162.out 2
                have hfz61_3 := blk_frozen BK162.out 3
                have hfz61_4 := blk_frozen BK162.out 4
                have hcz62_0 : wc.cell? ⟨gb161, 0, none⟩ = some (.int .i64 a0_0) := (blk_cell BK161.out 0).trans rfl
                have hcz62_1 : wc.cell? ⟨gb161, 1, none⟩ = some (.int .i64 a0_1) := (blk_cell BK161.out 1).trans rfl
                have hcz62_2 : wc.cell? ⟨gb161, 2, none⟩ = some (.int .i64 a0_2) := (blk_cell BK161.out 2).trans rfl
                have hcz62_3 : wc.cell? ⟨gb161, 3, none⟩ = some (.int .i64 a0_3) := (blk_cell BK161.out 3).trans rfl
                have hcz62_4 : wc.cell? ⟨gb161, 4, none⟩ = some (.slice A0_4 l0_4.length c0_4) := (blk_cell BK161.out 4).trans rfl
                have hfz62_0 := blk_frozen BK161.out 0
                have hfz62_1 := blk_frozen BK161.out 1
                have hfz62_2 := blk_frozen BK161.out 2
                have hfz62_3 := blk_frozen BK161.out 3
                have hfz62_4 := blk_frozen BK161.out 4
                go_wp2_with (first | (go_at_call 12; (with_reducible refine (river_Count.calls a1_0 a1_1 a1_2 a1_3 _ _ l1_4 a0_0 a0_1 a0_2 a0_3 _ _ l0_4 t177 _ ?side1 ?side2 ?side3 ?side4 A57.out).mono ?_); (case side1 => repeat (first | exact (Kd.C_below HR1_4.out HB.out) | (with_reducible apply Kd.C_alloc) | (with_reducible apply Kd.C_drewN) | (with_reducible apply Kd.C_drew))); (case side2 => exact HC1_4.out); (case side3 => repeat (first | exact (Kd.C_below HR0_4.out HB.out) | (with_reducible apply Kd.C_alloc) | (with_reducible apply Kd.C_drewN) | (with_reducible apply Kd.C_drew))); (case side4 => exact HC0_4.out); rintro e w63 ⟨rfl, hb⟩; have n0_ := Aside0.mk (blk_below (g := gb161) (o := .cells #[.int .i64 a0_0, .int .i64 a0_1, .int .i64 a0_2, .int .i64 a0_3, .slice A0_4 l0_4.length c0_4] 24 (0, 0)) (by (with_reducible repeat (first | refine blk_drewN ?_ _ | refine blk_drew ?_ | refine blk_alloc ?_ _)); exact BK161.out) hb); have n1_ := Aside0.mk (blk_below (g := gb162) (o := .cells #[.int .i64 a1_0, .int .i64 a1_1, .int .i64 a1_2, .int .i64 a1_3, .slice A1_4 l1_4.length c1_4] 24 (0, 0)) (by (with_reducible repeat (first | refine blk_drewN ?_ _ | refine blk_drew ?_ | refine blk_alloc ?_ _)); exact BK162.out) hb); have n2_ := Aside0.mk (below_step (by repeat (first | (with_reducible first | exact HB.out | apply below_alloc | apply pw_below_drewN | apply below_drew1 | refine below_set ?_ GE161.out | refine below_set ?_ GE162.out) | exact HB.out)) hb); clear BK161; clear BK162; clear HB; have BK161 := n0_; have BK162 := n1_; have HB := n2_; clear n0_ n1_ n2_; (try clear hb); (try clear hb2); (try clear hk); (try clear hi)))
                go_ret
                exact ⟨by first | rfl | (simp [errW_none, errW_some] <;> rfl) | (simp only [← hji39, ← hji40, ← hji41, ← hji42]; first | rfl | (simp [errW_none, errW_some] <;> rfl)) | (simp [*, errW_none, errW_some] <;> rfl), by repeat (first | (with_reducible first | exact HB.out | apply below_alloc | apply pw_below_drewN | apply below_drew1 | refine below_set ?_ GE161.out | refine below_set ?_ GE162.out) | exact HB.out)⟩
               ·rw [if_neg c59] at H
                exact absurd H (by simp)
              ·rw [if_neg c58] at H
               exact absurd H (by simp)
             ·replace c56 := Bool.eq_false_iff.mpr c56
              subst c56
              have H1 : (none) = some r := by rw [if_neg (show ¬ (false = true) by decide)] at H; exact H
              clear H
              have H := H1
              clear H1
              exact absurd H (by simp)
            ·replace c55 := Bool.eq_false_iff.mpr c55
             subst c55
             have H1 : (compositorlaw20_RiverTurns.l2 kj44 t163 t166 ji40 ji42 (wrap64 ((t171.length : Int) * (t174.length : Int))) 0 a0_0 a0_1 a0_2 a0_3 l0_4 a1_0 a1_1 a1_2 a1_3 l1_4 0 0 (wrap64 ((wrap64 ((wrap64 (a1_2 + ji40)) - ji42)) + 1)) 0 ([] : List (S33))) = some r := by rw [if_neg (show ¬ (false = true) by decide)] at H; exact H
             clear H
             have H := H1
             clear H1
             have H' := Aside0.mk H
             clear H
             have hnb64 := NB162_161.out
             have hnc64 := NB161_162.out
             have hcz65_0 : wc.cell? ⟨gb162, 0, none⟩ = some (.int .i64 a1_0) := (blk_cell BK162.out 0).trans rfl
             have hcz65_1 : wc.cell? ⟨gb162, 1, none⟩ = some (.int .i64 a1_1) := (blk_cell BK162.out 1).trans rfl
             have hcz65_2 : wc.cell? ⟨gb162, 2, none⟩ = some (.int .i64 a1_2) := (blk_cell BK162.out 2).trans rfl
             have hcz65_3 : wc.cell? ⟨gb162, 3, none⟩ = some (.int .i64 a1_3) := (blk_cell BK162.out 3).trans rfl
             have hcz65_4 : wc.cell? ⟨gb162, 4, none⟩ = some (.slice A1_4 l1_4.length c1_4) := (blk_cell BK162.out 4).trans rfl
             have hfz65_0 := blk_frozen BK162.out 0
             have hfz65_1 := blk_frozen BK162.out 1
             have hfz65_2 := blk_frozen BK162.out 2
             have hfz65_3 := blk_frozen BK162.out 3
             have hfz65_4 := blk_frozen BK162.out 4
             go_wp2_with (first | ((with_reducible refine gate_dst (N := 12) rfl ?_); refine box_event ?hg (N := 12) ?hd (cs := #[.int .i64 0, .int .i64 0, .int .i64 0, .int .i64 0, .slice none 0 0]) (t := 24) ?hr ?_; (case hd => rfl); (case hg => rfl); (case hr => first | (go_simp; done) | (go_simp; rfl)); intro gb178 hg w66 hbox hb; have n0_ := Aside0.mk (blk_below (g := gb161) (o := .cells #[.int .i64 a0_0, .int .i64 a0_1, .int .i64 a0_2, .int .i64 a0_3, .slice A0_4 l0_4.length c0_4] 24 (0, 0)) (by (with_reducible repeat (first | refine blk_drewN ?_ _ | refine blk_drew ?_ | refine blk_alloc ?_ _)); exact BK161.out) hb); have n1_ := Aside0.mk (blk_below (g := gb162) (o := .cells #[.int .i64 a1_0, .int .i64 a1_1, .int .i64 a1_2, .int .i64 a1_3, .slice A1_4 l1_4.length c1_4] 24 (0, 0)) (by (with_reducible repeat (first | refine blk_drewN ?_ _ | refine blk_drew ?_ | refine blk_alloc ?_ _)); exact BK162.out) hb); have n2_ := Aside0.mk (below_step (by repeat (first | (with_reducible first | exact HB.out | apply below_alloc | apply pw_below_drewN | apply below_drew1 | refine below_set ?_ GE161.out | refine below_set ?_ GE162.out) | exact HB.out)) hb); have n3_ := Aside0.mk (hbox); have n4_ := Aside0.mk ((by rw [hg]; exact (below_size (by repeat (first | (with_reducible first | exact HB.out | apply below_alloc | apply pw_below_drewN | apply below_drew1 | refine below_set ?_ GE161.out | refine below_set ?_ GE162.out) | exact HB.out))) : w.heap.size ≤ gb178)); have n5_ := Aside0.mk ((by rw [hg]; exact (below_size (by repeat (first | (with_reducible first | exact HB.out | apply below_alloc | apply pw_below_drewN | apply below_drew1 | refine below_set ?_ GE161.out | refine below_set ?_ GE162.out) | exact HB.out))) : w.heap.size ≤ gb178)); have n6_ := Aside0.mk ((by rw [hg]; exact Nat.ne_of_lt (blk_lt (g := gb161) (o := .cells #[.int .i64 a0_0, .int .i64 a0_1, .int .i64 a0_2, .int .i64 a0_3, .slice A0_4 l0_4.length c0_4] 24 (0, 0)) (by (with_reducible repeat (first | refine blk_drewN ?_ _ | refine blk_drew ?_ | refine blk_alloc ?_ _)); exact BK161.out)) : gb161 ≠ gb178)); have n7_ := Aside0.mk ((by rw [hg]; exact Nat.ne_of_gt (blk_lt (g := gb161) (o := .cells #[.int .i64 a0_0, .int .i64 a0_1, .int .i64 a0_2, .int .i64 a0_3, .slice A0_4 l0_4.length c0_4] 24 (0, 0)) (by (with_reducible repeat (first | refine blk_drewN ?_ _ | refine blk_drew ?_ | refine blk_alloc ?_ _)); exact BK161.out)) : gb178 ≠ gb161)); have n8_ := Aside0.mk ((by rw [hg]; exact Nat.ne_of_lt (blk_lt (g := gb162) (o := .cells #[.int .i64 a1_0, .int .i64 a1_1, .int .i64 a1_2, .int .i64 a1_3, .slice A1_4 l1_4.length c1_4] 24 (0, 0)) (by (with_reducible repeat (first | refine blk_drewN ?_ _ | refine blk_drew ?_ | refine blk_alloc ?_ _)); exact BK162.out)) : gb162 ≠ gb178)); have n9_ := Aside0.mk ((by rw [hg]; exact Nat.ne_of_gt (blk_lt (g := gb162) (o := .cells #[.int .i64 a1_0, .int .i64 a1_1, .int .i64 a1_2, .int .i64 a1_3, .slice A1_4 l1_4.length c1_4] 24 (0, 0)) (by (with_reducible repeat (first | refine blk_drewN ?_ _ | refine blk_drew ?_ | refine blk_alloc ?_ _)); exact BK162.out)) : gb178 ≠ gb162)); clear BK161; clear BK162; clear HB; have BK161 := n0_; have BK162 := n1_; have HB := n2_; have BK178 := n3_; have GW178 := n4_; have GE178 := n5_; have NB161_178 := n6_; have NB178_161 := n7_; have NB162_178 := n8_; have NB178_162 := n9_; clear n0_ n1_ n2_ n3_ n4_ n5_ n6_ n7_ n8_ n9_; clear hb hbox hg; have hnb67 := NB178_161.out; have hnc67 := NB161_178.out; have hnb68 := NB178_162.out; have hnc68 := NB162_178.out; have hcz69_0 : w66.cell? ⟨gb178, 0, none⟩ = some (.int .i64 0) := (blk_cell BK178.out 0).trans rfl; have hcz69_1 : w66.cell? ⟨gb178, 1, none⟩ = some (.int .i64 0) := (blk_cell BK178.out 1).trans rfl; have hcz69_2 : w66.cell? ⟨gb178, 2, none⟩ = some (.int .i64 0) := (blk_cell BK178.out 2).trans rfl; have hcz69_3 : w66.cell? ⟨gb178, 3, none⟩ = some (.int .i64 0) := (blk_cell BK178.out 3).trans rfl; have hcz69_4 : w66.cell? ⟨gb178, 4, none⟩ = some (.slice none 0 0) := (blk_cell BK178.out 4).trans rfl; have hfz69_0 := blk_frozen BK178.out 0; have hfz69_1 := blk_frozen BK178.out 1; have hfz69_2 := blk_frozen BK178.out 2; have hfz69_3 := blk_frozen BK178.out 3; have hfz69_4 := blk_frozen BK178.out 4))
             go_loopg [13] kj44 (fun kq v13 w' => ∃ (x13_5 : Int) (x179004_5 : List (S33)) (u179004 : Value), v13 = .int .i64 x13_5 ∧ Aside0 (compositorlaw20_RiverTurns.l2 kq t163 t166 ji40 ji42 (wrap64 ((t171.length : Int) * (t174.length : Int))) x13_5 a0_0 a0_1 a0_2 a0_3 l0_4 a1_0 a1_1 a1_2 a1_3 l1_4 0 0 (wrap64 ((wrap64 ((wrap64 (a1_2 + ji40)) - ji42)) + 1)) 0 x179004_5 = some r) ∧ Aside0 (kq ≤ kj44) ∧ Aside0 (Kd.R k33 33 w' w.heap.size (fun _ => True) u179004 x179004_5) ∧ Aside0 (w'.heap[gb161]? = some (.cells #[.int .i64 a0_0, .int .i64 a0_1, .int .i64 a0_2, .int .i64 a0_3, (.slice A0_4 l0_4.length c0_4)] 24 (0, 0))) ∧ Aside0 (w'.heap[gb162]? = some (.cells #[.int .i64 a1_0, .int .i64 a1_1, .int .i64 a1_2, .int .i64 a1_3, (.slice A1_4 l1_4.length c1_4)] 24 (0, 0))) ∧ Aside0 (w'.heap[gb178]? = some (.cells #[.int .i64 0, .int .i64 0, .int .i64 (wrap64 ((wrap64 ((wrap64 (a1_2 + ji40)) - ji42)) + 1)), .int .i64 0, u179004] 24 (0, 0))) ∧ Aside0 (Below w.heap.size w w'))
             case atStart => exact ⟨(0), (([] : List (S33))), (.slice none 0 0), (by first | rfl | (simp; done) | (simp [*]; done)), H', ⟨Nat.le_refl _⟩, ⟨by first | exact Kd.R_nil _ _ _ _ _ | exact Kd.N_nil _ _ _ _ _ | exact Kd.V_nil _ _ _ _ _ | exact Kd.Q_nil _ _ _ _ _ | exact Kd.S_nil _ _ _ _ _⟩, ⟨by (with_reducible repeat (first | refine blk_drewN ?_ _ | refine blk_drew ?_ | refine blk_alloc ?_ _)); refine blk_far ?_ NB161_178.out _; (with_reducible repeat (first | refine blk_drewN ?_ _ | refine blk_drew ?_ | refine blk_alloc ?_ _)); refine blk_far ?_ NB161_178.out _; (with_reducible repeat (first | refine blk_drewN ?_ _ | refine blk_drew ?_ | refine blk_alloc ?_ _)); refine blk_far ?_ NB161_178.out _; (with_reducible repeat (first | refine blk_drewN ?_ _ | refine blk_drew ?_ | refine blk_alloc ?_ _)); refine blk_far ?_ NB161_178.out _; (with_reducible repeat (first | refine blk_drewN ?_ _ | refine blk_drew ?_ | refine blk_alloc ?_ _)); refine blk_far ?_ NB161_178.out _; (with_reducible repeat (first | refine blk_drewN ?_ _ | refine blk_drew ?_ | refine blk_alloc ?_ _)); exact BK161.out⟩, ⟨by (with_reducible repeat (first | refine blk_drewN ?_ _ | refine blk_drew ?_ | refine blk_alloc ?_ _)); refine blk_far ?_ NB162_178.out _; (with_reducible repeat (first | refine blk_drewN ?_ _ | refine blk_drew ?_ | refine blk_alloc ?_ _)); refine blk_far ?_ NB162_178.out _; (with_reducible repeat (first | refine blk_drewN ?_ _ | refine blk_drew ?_ | refine blk_alloc ?_ _)); refine blk_far ?_ NB162_178.out _; (with_reducible repeat (first | refine blk_drewN ?_ _ | refine blk_drew ?_ | refine blk_alloc ?_ _)); refine blk_far ?_ NB162_178.out _; (with_reducible repeat (first | refine blk_drewN ?_ _ | refine blk_drew ?_ | refine blk_alloc ?_ _)); refine blk_far ?_ NB162_178.out _; (with_reducible repeat (first | refine blk_drewN ?_ _ | refine blk_drew ?_ | refine blk_alloc ?_ _)); exact BK162.out⟩, ⟨by (with_reducible repeat (first | refine blk_drewN ?_ _ | refine blk_drew ?_ | refine blk_alloc ?_ _)); refine blk_put (cs := #[.int .i64 0, .int .i64 0, .int .i64 (wrap64 ((wrap64 ((wrap64 (a1_2 + ji40)) - ji42)) + 1)), .int .i64 0, .slice none 0 0]) ?_ 4 _ rfl; (with_reducible repeat (first | refine blk_drewN ?_ _ | refine blk_drew ?_ | refine blk_alloc ?_ _)); refine blk_put (cs := #[.int .i64 0, .int .i64 0, .int .i64 (wrap64 ((wrap64 ((wrap64 (a1_2 + ji40)) - ji42)) + 1)), .int .i64 0, .slice none 0 0]) ?_ 3 _ rfl; (with_reducible repeat (first | refine blk_drewN ?_ _ | refine blk_drew ?_ | refine blk_alloc ?_ _)); refine blk_put (cs := #[.int .i64 0, .int .i64 0, .int .i64 0, .int .i64 0, .slice none 0 0]) ?_ 2 _ rfl; (with_reducible repeat (first | refine blk_drewN ?_ _ | refine blk_drew ?_ | refine blk_alloc ?_ _)); refine blk_put (cs := #[.int .i64 0, .int .i64 0, .int .i64 0, .int .i64 0, .slice none 0 0]) ?_ 1 _ rfl; (with_reducible repeat (first | refine blk_drewN ?_ _ | refine blk_drew ?_ | refine blk_alloc ?_ _)); refine blk_put (cs := #[.int .i64 0, .int .i64 0, .int .i64 0, .int .i64 0, .slice none 0 0]) ?_ 0 _ rfl; (with_reducible repeat (first | refine blk_drewN ?_ _ | refine blk_drew ?_ | refine blk_alloc ?_ _)); exact BK178.out⟩, ⟨by repeat (first | (with_reducible first | exact HB.out | apply below_alloc | apply pw_below_drewN | apply below_drew1 | refine below_set ?_ GE161.out | refine below_set ?_ GE162.out | refine below_set ?_ GE178.out) | exact HB.out)⟩⟩
             case round =>
              clear H'
              try clear c1
              try clear p1
              try clear q1
              try clear hx1
              try clear c2
              try clear p2
              try clear c3
              try clear c4
              try clear c5
              try clear c6
              try clear p6
              try clear c7
              try clear c8
              try clear c9
              try clear c10
              try clear c11
              try clear c12
              try clear c16
              try clear p16
              try clear q16
              try clear hx16
              try clear p17
              try clear q17
              try clear hx17
              try clear c19
              try clear c21
              try clear c25
              try clear c25b0
              try clear c26
              try clear c26b0
              try clear c29
              try clear c31
              try clear c33
              try clear c33b0
              try clear c34
              try clear c34b0
              try clear c37
              try clear c46
              try clear c54
              try clear c54b0
              try clear c55
              try clear c56
              try clear c58
              try clear c58b0
              try clear c58b1
              try clear c59
              try clear c59b0
              try clear c60
              try clear c64
              try clear p64
              try clear c67
              try clear c68
              try clear hcz12_0
              try clear hcz12_1
              try clear hcz12_2
              try clear hcz12_3
              try clear hcz12_4
              try clear hcz14_0
              try clear hcz14_1
              try clear hcz14_2
              try clear hcz14_3
              try clear hcz14_4
              try clear hcz17_0
              try clear hcz17_1
              try clear hcz17_2
              try clear hcz17_3
              try clear hcz17_4
              try clear hcz22_0
              try clear hcz22_1
              try clear hcz22_2
              try clear hcz22_3
              try clear hcz22_4
              try clear hcz23_0
              try clear hcz23_1
              try clear hcz23_2
              try clear hcz23_3
              try clear hcz23_4
              try clear hcz30_0
              try clear hcz30_1
              try clear hcz30_2
              try clear hcz30_3
              try clear hcz30_4
              try clear hcz32_0
              try clear hcz32_1
              try clear hcz32_2
              try clear hcz32_3
              try clear hcz32_4
              try clear hcz38_0
              try clear hcz38_1
              try clear hcz38_2
              try clear hcz38_3
              try clear hcz38_4
              try clear hcz47_0
              try clear hcz47_1
              try clear hcz47_2
              try clear hcz47_3
              try clear hcz47_4
              try clear hcz48_0
              try clear hcz48_1
              try clear hcz48_2
              try clear hcz48_3
              try clear hcz48_4
              try clear hcz61_0
              try clear hcz61_1
              try clear hcz61_2
              try clear hcz61_3
              try clear hcz61_4
              try clear hcz62_0
              try clear hcz62_1
              try clear hcz62_2
              try clear hcz62_3
              try clear hcz62_4
              try clear hcz65_0
              try clear hcz65_1
              try clear hcz65_2
              try clear hcz65_3
              try clear hcz65_4
              try clear hcz69_0
              try clear hcz69_1
              try clear hcz69_2
              try clear hcz69_3
              try clear hcz69_4
              try clear hfz12_0
              try clear hfz12_1
              try clear hfz12_2
              try clear hfz12_3
              try clear hfz12_4
              try clear hfz14_0
              try clear hfz14_1
              try clear hfz14_2
              try clear hfz14_3
              try clear hfz14_4
              try clear hfz17_0
              try clear hfz17_1
              try clear hfz17_2
              try clear hfz17_3
              try clear hfz17_4
              try clear hfz22_0
              try clear hfz22_1
              try clear hfz22_2
              try clear hfz22_3
              try clear hfz22_4
              try clear hfz23_0
              try clear hfz23_1
              try clear hfz23_2
              try clear hfz23_3
              try clear hfz23_4
              try clear hfz30_0
              try clear hfz30_1
              try clear hfz30_2
              try clear hfz30_3
              try clear hfz30_4
              try clear hfz32_0
              try clear hfz32_1
              try clear hfz32_2
              try clear hfz32_3
              try clear hfz32_4
              try clear hfz38_0
              try clear hfz38_1
              try clear hfz38_2
              try clear hfz38_3
              try clear hfz38_4
              try clear hfz47_0
              try clear hfz47_1
              try clear hfz47_2
              try clear hfz47_3
              try clear hfz47_4
              try clear hfz48_0
              try clear hfz48_1
              try clear hfz48_2
              try clear hfz48_3
              try clear hfz48_4
              try clear hfz61_0
              try clear hfz61_1
              try clear hfz61_2
              try clear hfz61_3
              try clear hfz61_4
              try clear hfz62_0
              try clear hfz62_1
              try clear hfz62_2
              try clear hfz62_3
              try clear hfz62_4
              try clear hfz65_0
              try clear hfz65_1
              try clear hfz65_2
              try clear hfz65_3
              try clear hfz65_4
              try clear hfz69_0
              try clear hfz69_1
              try clear hfz69_2
              try clear hfz69_3
              try clear hfz69_4
              try clear hx167_0
              try clear hx167_1
              try clear hx168_0
              try clear hx168_1
              try clear hx169_0
              try clear hx169_1
              try clear hx170_0
              try clear hx170_1
              try clear p1
              try clear p16
              try clear p167
              try clear p168
              try clear p169
              try clear p17
              try clear p170
              try clear p2
              try clear p6
              try clear q1
              try clear q16
              try clear q167
              try clear q168
              try clear q169
              try clear q17
              try clear q170
              obtain ⟨x13_5, x179004_5, u179004, rfl, HA, HK5, HO_179004, BK161, BK162, BK178, HB⟩ := hrel
              cases gk with
              | zero => exact absurd HA.out (by simp [compositorlaw20_RiverTurns.l2])
              | succ k5 =>
               have H := HA.out
               clear HA
               simp only [compositorlaw20_RiverTurns.l2] at H
               by_cases c70 : x13_5 < (l1_4.length : Int)
               ·rw [if_pos c70] at H
                have c70b0 : decide (x13_5 < (l1_4.length : Int)) = true := decide_eq_true c70
                clear c70
                by_cases c71 : 0 ≤ x13_5
                ·rw [if_pos c71] at H
                 have c71b0 : decide (0 ≤ x13_5) = true := decide_eq_true c71
                 clear c71
                 by_cases c72 : x179004_5.length < 8796093022208
                 ·rw [if_pos c72] at H
                  have LMc72 := Aside0.mk c72
                  clear c72
                  obtain ⟨y181, hy181⟩ : ∃ y_ : List (S33), y_ = (x179004_5 ++ [(⟨(rd_T33 l1_4 x13_5).f0, wrap64 ((wrap64 ((wrap64 (((rd_T33 l1_4 x13_5).f1) + ji40)) - ji42)) + 1)⟩ : S33)]) := ⟨_, rfl⟩
                  replace H : (compositorlaw20_RiverTurns.l2 k5 t163 t166 ji40 ji42 (wrap64 ((t171.length : Int) * (t174.length : Int))) (wrap64 (x13_5 + 1)) a0_0 a0_1 a0_2 a0_3 l0_4 a1_0 a1_1 a1_2 a1_3 l1_4 0 0 (wrap64 ((wrap64 ((wrap64 (a1_2 + ji40)) - ji42)) + 1)) 0 y181) = some r := by first | (rw [hy181]; with_reducible exact H) | (have H2_ := (Option.bind_some _ _).symm.trans H; rw [hy181]; with_reducible exact H2_) | (have H2_ := (Option.bind_some _ _).symm.trans H; with_reducible exact H2_) | with_reducible exact H | (rw [hy181]; exact H) | exact H
                  have Ny181 := Aside0.mk hy181
                  clear hy181
                  have H' := Aside0.mk H
                  clear H
                  have hnb73 := NB162_161.out
                  have hnc73 := NB161_162.out
                  have hnb74 := NB162_178.out
                  have hnc74 := NB178_162.out
                  have hcz75_0 : wr.cell? ⟨gb162, 0, none⟩ = some (.int .i64 a1_0) := (blk_cell BK162.out 0).trans rfl
                  have hcz75_1 : wr.cell? ⟨gb162, 1, none⟩ = some (.int .i64 a1_1) := (blk_cell BK162.out 1).trans rfl
                  have hcz75_2 : wr.cell? ⟨gb162, 2, none⟩ = some (.int .i64 a1_2) := (blk_cell BK162.out 2).trans rfl
                  have hcz75_3 : wr.cell? ⟨gb162, 3, none⟩ = some (.int .i64 a1_3) := (blk_cell BK162.out 3).trans rfl
                  have hcz75_4 : wr.cell? ⟨gb162, 4, none⟩ = some (.slice A1_4 l1_4.length c1_4) := (blk_cell BK162.out 4).trans rfl
                  have hfz75_0 := blk_frozen BK162.out 0
                  have hfz75_1 := blk_frozen BK162.out 1
                  have hfz75_2 := blk_frozen BK162.out 2
                  have hfz75_3 := blk_frozen BK162.out 3
                  have hfz75_4 := blk_frozen BK162.out 4
                  try go_wp2
                  have n0_ := Aside0.mk (Kd.R_drew HO_179004.out)
                  have n1_ := Aside0.mk (blk_drew BK161.out)
                  have n2_ := Aside0.mk (blk_drew BK162.out)
                  have n3_ := Aside0.mk (blk_drew BK178.out)
                  have n4_ := Aside0.mk (below_drew1 HB.out)
                  clear HO_179004
                  clear BK161
                  clear BK162
                  clear BK178
                  clear HB
                  have HO_179004 := n0_
                  have BK161 := n1_
                  have BK162 := n2_
                  have BK178 := n3_
                  have HB := n4_
                  clear n0_ n1_ n2_ n3_ n4_
                  have p179 : 0 ≤ (x13_5 : Int) := odt
                  have q179 : x13_5 < (l1_4.length : Int) := odt
                  obtain ⟨ad179, e179, hx179_0, hx179_1⟩ := at_T33 HR1_4.out x13_5 p179 q179
                  have hw179_1 := hx179_1
                  have hw179_0 := hx179_0
                  cases e179
                  replace hx179_0 := (HB.out.cell (World.block_lt_of_cell? w _ hx179_0)).trans hx179_0
                  replace hx179_1 := (HB.out.cell (World.block_lt_of_cell? w _ hx179_1)).trans hx179_1
                  replace p179 := eq_true p179
                  replace q179 := eq_true q179
                  have p180 : 0 ≤ (x13_5 : Int) := odt
                  have q180 : x13_5 < (l1_4.length : Int) := odt
                  obtain ⟨ad180, e180, hx180_0, hx180_1⟩ := at_T33 HR1_4.out x13_5 p180 q180
                  have hw180_1 := hx180_1
                  have hw180_0 := hx180_0
                  obtain rfl : ad179 = ad180 := (by injection e180)
                  replace hx180_0 := (HB.out.cell (World.block_lt_of_cell? w _ hx180_0)).trans hx180_0
                  replace hx180_1 := (HB.out.cell (World.block_lt_of_cell? w _ hx180_1)).trans hx180_1
                  replace p180 := eq_true p180
                  replace q180 := eq_true q180
                  refine start_ (n := 24) (S := fun w' => w'.cell? ⟨gb178, 0, none⟩ = some (.int .i64 0) ∧ w'.cell? ⟨gb178, 1, none⟩ = some (.int .i64 0) ∧ w'.cell? ⟨gb178, 2, none⟩ = some (.int .i64 (wrap64 ((wrap64 ((wrap64 (a1_2 + ji40)) - ji42)) + 1))) ∧ w'.cell? ⟨gb178, 3, none⟩ = some (.int .i64 0) ∧ w'.cell? ⟨gb178, 4, none⟩ = some (u179004) ∧ w'.cell? ⟨gb162, 0, none⟩ = some (.int .i64 a1_0) ∧ w'.cell? ⟨gb162, 1, none⟩ = some (.int .i64 a1_1) ∧ w'.cell? ⟨gb162, 2, none⟩ = some (.int .i64 a1_2) ∧ w'.cell? ⟨gb162, 3, none⟩ = some (.int .i64 a1_3) ∧ w'.cell? ⟨gb162, 4, none⟩ = some (.slice (some ad179) l1_4.length c1_4) ∧ w'.cell? (ad179.add ((x13_5).toNat * 2)) = some (.int .i64 ((rd_T33 l1_4 x13_5).f0)) ∧ w'.cell? ⟨(ad179.add ((x13_5).toNat * 2)).block, (ad179.add ((x13_5).toNat * 2)).off + 1, none⟩ = some (.int .i64 ((rd_T33 l1_4 x13_5).f1)) ∧ w'.cell? (ad179.add ((x13_5).toNat * 2)) = some (.int .i64 ((rd_T33 l1_4 x13_5).f0)) ∧ w'.cell? ⟨(ad179.add ((x13_5).toNat * 2)).block, (ad179.add ((x13_5).toNat * 2)).off + 1, none⟩ = some (.int .i64 ((rd_T33 l1_4 x13_5).f1))) (ds := [23]) #[false, false, false, false, false, false, false, false, false, false, false, false, false, false, false, false, false, false, false, false, false, false, false, false] (by kernel_rfl) rfl rfl ⟨(blk_cell BK178.out 0).trans rfl, (blk_cell BK178.out 1).trans rfl, (blk_cell BK178.out 2).trans rfl, (blk_cell BK178.out 3).trans rfl, (blk_cell BK178.out 4).trans rfl, (blk_cell BK162.out 0).trans rfl, (blk_cell BK162.out 1).trans rfl, (blk_cell BK162.out 2).trans rfl, (blk_cell BK162.out 3).trans rfl, (blk_cell BK162.out 4).trans rfl, ((HB.out.cell (World.block_lt_of_cell? w _ hw179_0)).trans hw179_0), ((HB.out.cell (World.block_lt_of_cell? w _ hw179_1)).trans hw179_1), ((HB.out.cell (World.block_lt_of_cell? w _ hw180_0)).trans hw180_0), ((HB.out.cell (World.block_lt_of_cell? w _ hw180_1)).trans hw180_1)⟩ (fun hHeld => ?_); refine with_tabW compositorlaw20_RiverTurns.tab26 compositorlaw20_RiverTurns.bits26 (fun HT_ HW_ => ?_)
                  generalize wr.drew = w76 at HO_179004 BK161 BK162 BK178 HB hx179_0 hx179_1 hx180_0 hx180_1 hHeld ⊢
                  refine pure_ (i := 0) (N := some 130) (v := ?_) (a' := ?_) #[true, false, false, false, false, false, false, false, false, false, false, false, false, false, false, false, false, false, false, false, false, false, false, false] rfl rfl (any_of HT_.out (by kernel_rfl)) (fun _ _ _ h => h) (Or.inl ⟨by rfl, ?_⟩) ?_ ?_
                  rotate_left
                  ·intro w'
                   go_simp
                   with_reducible rfl
                  rotate_left
                  ·simp only [Act.put, List.setIfInBounds_toArray, List.set_cons_zero, List.set_cons_succ, i64_w, i32_w]
                   rfl
                  refine pure_ (i := 2) (N := some 132) (v := ?_) (a' := ?_) #[true, false, true, false, false, false, false, false, false, false, false, false, false, false, false, false, false, false, false, false, false, false, false, false] rfl rfl (any_of HT_.out (by kernel_rfl)) (fun _ _ _ h => h) (Or.inl ⟨by rfl, ?_⟩) ?_ ?_
                  rotate_left
                  ·intro w'
                   go_simp
                   with_reducible rfl
                  rotate_left
                  ·simp only [Act.put, List.setIfInBounds_toArray, List.set_cons_zero, List.set_cons_succ, i64_w, i32_w]
                   rfl
                  refine pure_ (i := 4) (N := some 134) (v := ?_) (a' := ?_) #[true, false, true, false, true, false, false, false, false, false, false, false, false, false, false, false, false, false, false, false, false, false, false, false] rfl rfl (any_of HT_.out (by kernel_rfl)) (fun _ _ _ h => h) (Or.inl ⟨by rfl, ?_⟩) ?_ ?_
                  rotate_left
                  ·intro w'
                   go_simp
                   with_reducible rfl
                  rotate_left
                  ·simp only [Act.put, List.setIfInBounds_toArray, List.set_cons_zero, List.set_cons_succ, i64_w, i32_w]
                   rfl
                  refine pure_ (i := 8) (N := some 138) (v := ?_) (a' := ?_) #[true, false, true, false, true, false, false, false, true, false, false, false, false, false, false, false, false, false, false, false, false, false, false, false] rfl rfl (any_of HT_.out (by kernel_rfl)) (fun _ _ _ h => h) (Or.inl ⟨by rfl, ?_⟩) ?_ ?_
                  rotate_left
                  ·intro w'
                   go_simp
                   with_reducible rfl
                  rotate_left
                  ·simp only [Act.put, List.setIfInBounds_toArray, List.set_cons_zero, List.set_cons_succ, i64_w, i32_w]
                   rfl
                  refine pure_ (i := 10) (N := some 140) (v := ?_) (a' := ?_) #[true, false, true, false, true, false, false, false, true, false, true, false, false, false, false, false, false, false, false, false, false, false, false, false] rfl rfl (any_of HT_.out (by kernel_rfl)) (fun _ _ _ h => h) (Or.inl ⟨by rfl, ?_⟩) ?_ ?_
                  rotate_left
                  ·intro w'
                   go_simp
                   with_reducible rfl
                  rotate_left
                  ·simp only [Act.put, List.setIfInBounds_toArray, List.set_cons_zero, List.set_cons_succ, i64_w, i32_w]
                   rfl
                  refine pure_ (i := 14) (N := some 144) (v := ?_) (a' := ?_) #[true, false, true, false, true, false, false, false, true, false, true, false, false, false, true, false, false, false, false, false, false, false, false, false] rfl rfl (any_of HT_.out (by kernel_rfl)) (fun _ _ _ h => h) (Or.inl ⟨by rfl, ?_⟩) ?_ ?_
                  rotate_left
                  ·intro w'
                   go_simp
                   with_reducible rfl
                  rotate_left
                  ·simp only [Act.put, List.setIfInBounds_toArray, List.set_cons_zero, List.set_cons_succ, i64_w, i32_w]
                   rfl
                  refine pure_ (i := 16) (N := some 146) (v := ?_) (a' := ?_) #[true, false, true, false, true, false, false, false, true, false, true, false, false, false, true, false, true, false, false, false, false, false, false, false] rfl rfl (any_of HT_.out (by kernel_rfl)) (fun _ _ _ h => h) (Or.inl ⟨by rfl, ?_⟩) ?_ ?_
                  rotate_left
                  ·intro w'
                   go_simp
                   with_reducible rfl
                  rotate_left
                  ·simp only [Act.put, List.setIfInBounds_toArray, List.set_cons_zero, List.set_cons_succ, i64_w, i32_w]
                   rfl
                  refine take_ (i := 1) (N := some 131) (v := ?_) (a' := ?_) #[true, true, true, false, true, false, false, false, true, false, true, false, false, false, true, false, true, false, false, false, false, false, false, false] rfl rfl (take_ofW HT_.out HW_.out (by kernel_rfl)) (fun _ _ _ h => h) (Or.inl ⟨by rfl, ?_⟩) hHeld ?_ ?_
                  rotate_left
                  ·rintro w' ⟨s0, s1, s2, s3, s4, s5, s6, s7, s8, s9, s10, s11, s12, s13⟩
                   go_simp
                   with_reducible rfl
                  rotate_left
                  ·simp only [Act.put, List.setIfInBounds_toArray, List.set_cons_zero, List.set_cons_succ, i64_w, i32_w]
                   rfl
                  refine take_ (i := 3) (N := some 133) (v := ?_) (a' := ?_) #[true, true, true, true, true, false, false, false, true, false, true, false, false, false, true, false, true, false, false, false, false, false, false, false] rfl rfl (take_ofW HT_.out HW_.out (by kernel_rfl)) (fun _ _ _ h => h) (Or.inl ⟨by rfl, ?_⟩) hHeld ?_ ?_
                  rotate_left
                  ·rintro w' ⟨s0, s1, s2, s3, s4, s5, s6, s7, s8, s9, s10, s11, s12, s13⟩
                   go_simp
                   with_reducible rfl
                  rotate_left
                  ·simp only [Act.put, List.setIfInBounds_toArray, List.set_cons_zero, List.set_cons_succ, i64_w, i32_w]
                   rfl
                  refine pure_ (i := 5) (N := some 135) (v := ?_) (a' := ?_) #[true, true, true, true, true, true, false, false, true, false, true, false, false, false, true, false, true, false, false, false, false, false, false, false] rfl rfl (any_of HT_.out (by kernel_rfl)) (fun _ _ _ h => h) (Or.inl ⟨by rfl, ?_⟩) ?_ ?_
                  rotate_left
                  ·intro w'
                   go_simp
                   with_reducible rfl
                  rotate_left
                  ·simp only [Act.put, List.setIfInBounds_toArray, List.set_cons_zero, List.set_cons_succ, i64_w, i32_w]
                   rfl
                  refine pure_ (i := 6) (N := some 136) (v := ?_) (a' := ?_) #[true, true, true, true, true, true, true, false, true, false, true, false, false, false, true, false, true, false, false, false, false, false, false, false] rfl rfl (any_of HT_.out (by kernel_rfl)) (fun _ _ _ h => h) (Or.inl ⟨by rfl, ?_⟩) ?_ ?_
                  rotate_left
                  ·intro w'
                   go_simp
                   with_reducible rfl
                  rotate_left
                  ·simp only [Act.put, List.setIfInBounds_toArray, List.set_cons_zero, List.set_cons_succ, i64_w, i32_w]
                   rfl
                  refine take_ (i := 7) (N := some 137) (v := ?_) (a' := ?_) #[true, true, true, true, true, true, true, true, true, false, true, false, false, false, true, false, true, false, false, false, false, false, false, false] rfl rfl (take_ofW HT_.out HW_.out (by kernel_rfl)) (fun _ _ _ h => h) (Or.inl ⟨by rfl, ?_⟩) hHeld ?_ ?_
                  rotate_left
                  ·rintro w' ⟨s0, s1, s2, s3, s4, s5, s6, s7, s8, s9, s10, s11, s12, s13⟩
                   go_simp
                   with_reducible rfl
                  rotate_left
                  ·simp only [Act.put, List.setIfInBounds_toArray, List.set_cons_zero, List.set_cons_succ, i64_w, i32_w]
                   rfl
                  refine take_ (i := 9) (N := some 139) (v := ?_) (a' := ?_) #[true, true, true, true, true, true, true, true, true, true, true, false, false, false, true, false, true, false, false, false, false, false, false, false] rfl rfl (take_ofW HT_.out HW_.out (by kernel_rfl)) (fun _ _ _ h => h) (Or.inl ⟨by rfl, ?_⟩) hHeld ?_ ?_
                  rotate_left
                  ·rintro w' ⟨s0, s1, s2, s3, s4, s5, s6, s7, s8, s9, s10, s11, s12, s13⟩
                   go_simp
                   with_reducible rfl
                  rotate_left
                  ·simp only [Act.put, List.setIfInBounds_toArray, List.set_cons_zero, List.set_cons_succ, i64_w, i32_w]
                   rfl
                  refine pure_ (i := 11) (N := some 141) (v := ?_) (a' := ?_) #[true, true, true, true, true, true, true, true, true, true, true, true, false, false, true, false, true, false, false, false, false, false, false, false] rfl rfl (any_of HT_.out (by kernel_rfl)) (fun _ _ _ h => h) (Or.inl ⟨by rfl, ?_⟩) ?_ ?_
                  rotate_left
                  ·intro w'
                   go_simp
                   with_reducible rfl
                  rotate_left
                  ·simp only [Act.put, List.setIfInBounds_toArray, List.set_cons_zero, List.set_cons_succ, i64_w, i32_w]
                   rfl
                  refine pure_ (i := 12) (N := some 142) (v := ?_) (a' := ?_) #[true, true, true, true, true, true, true, true, true, true, true, true, true, false, true, false, true, false, false, false, false, false, false, false] rfl rfl (any_of HT_.out (by kernel_rfl)) (fun _ _ _ h => h) (Or.inl ⟨by rfl, ?_⟩) ?_ ?_
                  rotate_left
                  ·intro w'
                   go_simp
                   with_reducible rfl
                  rotate_left
                  ·simp only [Act.put, List.setIfInBounds_toArray, List.set_cons_zero, List.set_cons_succ, i64_w, i32_w]
                   rfl
                  refine take_ (i := 13) (N := some 143) (v := ?_) (a' := ?_) #[true, true, true, true, true, true, true, true, true, true, true, true, true, true, true, false, true, false, false, false, false, false, false, false] rfl rfl (take_ofW HT_.out HW_.out (by kernel_rfl)) (fun _ _ _ h => h) (Or.inl ⟨by rfl, ?_⟩) hHeld ?_ ?_
                  rotate_left
                  ·rintro w' ⟨s0, s1, s2, s3, s4, s5, s6, s7, s8, s9, s10, s11, s12, s13⟩
                   go_simp
                   with_reducible rfl
                  rotate_left
                  ·simp only [Act.put, List.setIfInBounds_toArray, List.set_cons_zero, List.set_cons_succ, i64_w, i32_w]
                   rfl
                  refine pure_ (i := 15) (N := some 145) (v := ?_) (a' := ?_) #[true, true, true, true, true, true, true, true, true, true, true, true, true, true, true, true, true, false, false, false, false, false, false, false] rfl rfl (any_of HT_.out (by kernel_rfl)) (fun _ _ _ h => h) (Or.inl ⟨by rfl, ?_⟩) ?_ ?_
                  rotate_left
                  ·intro w'
                   go_simp
                   with_reducible rfl
                  rotate_left
                  ·simp only [Act.put, List.setIfInBounds_toArray, List.set_cons_zero, List.set_cons_succ, i64_w, i32_w]
                   rfl
                  refine pure_ (i := 17) (N := some 147) (v := ?_) (a' := ?_) #[true, true, true, true, true, true, true, true, true, true, true, true, true, true, true, true, true, true, false, false, false, false, false, false] rfl rfl (any_of HT_.out (by kernel_rfl)) (fun _ _ _ h => h) (Or.inl ⟨by rfl, ?_⟩) ?_ ?_
                  rotate_left
                  ·intro w'
                   go_simp
                   with_reducible rfl
                  rotate_left
                  ·simp only [Act.put, List.setIfInBounds_toArray, List.set_cons_zero, List.set_cons_succ, i64_w, i32_w]
                   rfl
                  refine pure_ (i := 18) (N := some 148) (v := ?_) (a' := ?_) #[true, true, true, true, true, true, true, true, true, true, true, true, true, true, true, true, true, true, true, false, false, false, false, false] rfl rfl (any_of HT_.out (by kernel_rfl)) (fun _ _ _ h => h) (Or.inl ⟨by rfl, ?_⟩) ?_ ?_
                  rotate_left
                  ·intro w'
                   go_simp
                   with_reducible rfl
                  rotate_left
                  ·simp only [Act.put, List.setIfInBounds_toArray, List.set_cons_zero, List.set_cons_succ, i64_w, i32_w]
                   rfl
                  refine pure_ (i := 19) (N := some 149) (v := ?_) (a' := ?_) #[true, true, true, true, true, true, true, true, true, true, true, true, true, true, true, true, true, true, true, true, false, false, false, false] rfl rfl (any_of HT_.out (by kernel_rfl)) (fun _ _ _ h => h) (Or.inl ⟨by rfl, ?_⟩) ?_ ?_
                  rotate_left
                  ·intro w'
                   go_simp
                   with_reducible rfl
                  rotate_left
                  ·simp only [Act.put, List.setIfInBounds_toArray, List.set_cons_zero, List.set_cons_succ, i64_w, i32_w]
                   rfl
                  refine one_ (i := 20) (N := some 150) #[true, true, true, true, true, true, true, true, true, true, true, true, true, true, true, true, true, true, true, true, true, false, false, false] rfl rfl (one_of HT_.out (by kernel_rfl)) (by decide) (fun K hK => ?_)
                  refine value_ (w1 := ?_) (v := ?_) (by rfl) rfl ?_ ?_
                  rotate_left 2
                  ·go_simp
                   constructor
                   ·rfl
                   ·rfl
                  refine hK.out _ _ ⟨(blk_cell (blk_alloc BK178.out _) 0).trans rfl, (blk_cell (blk_alloc BK178.out _) 1).trans rfl, (blk_cell (blk_alloc BK178.out _) 2).trans rfl, (blk_cell (blk_alloc BK178.out _) 3).trans rfl, (blk_cell (blk_alloc BK178.out _) 4).trans rfl, (blk_cell (blk_alloc BK162.out _) 0).trans rfl, (blk_cell (blk_alloc BK162.out _) 1).trans rfl, (blk_cell (blk_alloc BK162.out _) 2).trans rfl, (blk_cell (blk_alloc BK162.out _) 3).trans rfl, (blk_cell (blk_alloc BK162.out _) 4).trans rfl, (World.cell?_alloc_lt _ _ _ (World.block_lt_of_cell? _ _ (((HB.out.cell (World.block_lt_of_cell? w _ hw179_0)).trans hw179_0)))).trans (((HB.out.cell (World.block_lt_of_cell? w _ hw179_0)).trans hw179_0)), (World.cell?_alloc_lt _ _ _ (World.block_lt_of_cell? _ _ (((HB.out.cell (World.block_lt_of_cell? w _ hw179_1)).trans hw179_1)))).trans (((HB.out.cell (World.block_lt_of_cell? w _ hw179_1)).trans hw179_1)), (World.cell?_alloc_lt _ _ _ (World.block_lt_of_cell? _ _ (((HB.out.cell (World.block_lt_of_cell? w _ hw180_0)).trans hw180_0)))).trans (((HB.out.cell (World.block_lt_of_cell? w _ hw180_0)).trans hw180_0)), (World.cell?_alloc_lt _ _ _ (World.block_lt_of_cell? _ _ (((HB.out.cell (World.block_lt_of_cell? w _ hw180_1)).trans hw180_1)))).trans (((HB.out.cell (World.block_lt_of_cell? w _ hw180_1)).trans hw180_1))⟩ (fun hHeld => ?_)
                  clear hK K
                  refine norm_ (a' := ?_) ?_ ?_
                  rotate_left
                  ·show Act.put _ (some 150) _ = _
                   simp only [Act.put, List.setIfInBounds_toArray, List.set_cons_zero, List.set_cons_succ, i64_w, i32_w]
                   rfl
                  refine one_ (i := 21) (N := some 151) #[true, true, true, true, true, true, true, true, true, true, true, true, true, true, true, true, true, true, true, true, true, true, false, false] rfl rfl (one_of HT_.out (by kernel_rfl)) (by decide) (fun K hK => ?_)
                  refine Kd.R_append_step k33 (w0 := w) w.heap.size (by rfl) (.tmp 131) (.tmp 150) 22 33 (.agg #[(.int .i64 0), (.int .i64 0)]) 16 rfl Try.underlying22 info33 rfl (by decide) (by omega) u179004 x179004_5 (⟨(rd_T33 l1_4 x13_5).f0, wrap64 ((wrap64 ((wrap64 (((rd_T33 l1_4 x13_5).f1) + ji40)) - ji42)) + 1)⟩ : S33) [.int .i64 ((rd_T33 l1_4 x13_5).f0), .int .i64 (wrap64 ((wrap64 ((wrap64 (((rd_T33 l1_4 x13_5).f1) + ji40)) - ji42)) + 1))] (fun _ => True) (fun _ => False) rfl rfl ?aP (fun _ hk => hk.elim) ?aF ?aO ?aB ?aS ?aL ?_
                  (case aP => exact k33_mkM _ _ _ (⟨(rd_T33 l1_4 x13_5).f0, wrap64 ((wrap64 ((wrap64 (((rd_T33 l1_4 x13_5).f1) + ji40)) - ji42)) + 1)⟩ : S33))
                  (case aB => exact (by repeat (first | (with_reducible first | exact HB.out | apply below_alloc | apply pw_below_drewN | apply below_drew1 | refine below_set ?_ GE161.out | refine below_set ?_ GE162.out | refine below_set ?_ GE178.out) | exact HB.out)))
                  (case aF => exact (fun _ _ => trivial))
                  (case aO => exact (by (with_reducible repeat (first | apply Kd.R_alloc | apply Kd.R_drewN | apply Kd.R_drew)); exact HO_179004.out))
                  (case aS => exact (below_size (by repeat (first | (with_reducible first | exact HB.out | apply below_alloc | apply pw_below_drewN | apply below_drew1 | refine below_set ?_ GE161.out | refine below_set ?_ GE162.out | refine below_set ?_ GE178.out) | exact HB.out))))
                  (case aL => have := LMc72.out; omega)
                  intro v182 w77 ho hb hg hat
                  rw [← Ny181.out] at ho
                  have n0_ := Aside0.mk (blk_grown (g := gb161) (o := .cells #[.int .i64 a0_0, .int .i64 a0_1, .int .i64 a0_2, .int .i64 a0_3, .slice A0_4 l0_4.length c0_4] 24 (0, 0)) (by (with_reducible repeat (first | refine blk_drewN ?_ _ | refine blk_drew ?_ | refine blk_alloc ?_ _)); exact BK161.out) hg (Kd.R_ne HO_179004.out BK161.out (by decide)))
                  have n1_ := Aside0.mk (blk_grown (g := gb162) (o := .cells #[.int .i64 a1_0, .int .i64 a1_1, .int .i64 a1_2, .int .i64 a1_3, .slice (some ad179) l1_4.length c1_4] 24 (0, 0)) (by (with_reducible repeat (first | refine blk_drewN ?_ _ | refine blk_drew ?_ | refine blk_alloc ?_ _)); exact BK162.out) hg (Kd.R_ne HO_179004.out BK162.out (by decide)))
                  have n2_ := Aside0.mk (blk_grown (g := gb178) (o := .cells #[.int .i64 0, .int .i64 0, .int .i64 (wrap64 ((wrap64 ((wrap64 (a1_2 + ji40)) - ji42)) + 1)), .int .i64 0, u179004] 24 (0, 0)) (by (with_reducible repeat (first | refine blk_drewN ?_ _ | refine blk_drew ?_ | refine blk_alloc ?_ _)); exact BK178.out) hg (Kd.R_ne HO_179004.out BK178.out (by decide)))
                  have n3_ := Aside0.mk (hb)
                  have n4_ := Aside0.mk (ho)
                  clear BK161
                  clear BK162
                  clear BK178
                  clear HB
                  clear HO_179004
                  have BK161 := n0_
                  have BK162 := n1_
                  have BK178 := n2_
                  have HB := n3_
                  have HO183 := n4_
                  clear n0_ n1_ n2_ n3_ n4_
                  clear ho hb hg hat
                  obtain ⟨Ao78, co78, eo78⟩ := Kd.R_slice HO183.out
                  (first | subst eo78 | (injection eo78 with f1_ f2_ f3_; have f4_ := f1_.symm; have f5_ := f3_.symm; clear f1_ f2_ f3_; subst f4_; subst f5_))
                  refine hK.out _ _ ⟨(blk_cell BK178.out 0).trans rfl, (blk_cell BK178.out 1).trans rfl, (blk_cell BK178.out 2).trans rfl, (blk_cell BK178.out 3).trans rfl, (blk_cell BK178.out 4).trans rfl, (blk_cell BK162.out 0).trans rfl, (blk_cell BK162.out 1).trans rfl, (blk_cell BK162.out 2).trans rfl, (blk_cell BK162.out 3).trans rfl, (blk_cell BK162.out 4).trans rfl, ((HB.out.cell (World.block_lt_of_cell? w _ hw179_0)).trans hw179_0), ((HB.out.cell (World.block_lt_of_cell? w _ hw179_1)).trans hw179_1), ((HB.out.cell (World.block_lt_of_cell? w _ hw180_0)).trans hw180_0), ((HB.out.cell (World.block_lt_of_cell? w _ hw180_1)).trans hw180_1)⟩ (fun hHeld => ?_)
                  clear hK K
                  refine norm_ (a' := ?_) ?_ ?_
                  rotate_left
                  ·show Act.put _ (some 151) _ = _
                   simp only [Act.put, List.setIfInBounds_toArray, List.set_cons_zero, List.set_cons_succ, i64_w, i32_w]
                   rfl
                  refine pure_ (i := 22) (N := some 152) (v := ?_) (a' := ?_) #[true, true, true, true, true, true, true, true, true, true, true, true, true, true, true, true, true, true, true, true, true, true, true, false] rfl rfl (any_of HT_.out (by kernel_rfl)) (fun _ _ _ h => h) (Or.inl ⟨by rfl, ?_⟩) ?_ ?_
                  rotate_left
                  ·intro w'
                   go_simp
                   with_reducible rfl
                  rotate_left
                  ·simp only [Act.put, List.setIfInBounds_toArray, List.set_cons_zero, List.set_cons_succ, i64_w, i32_w]
                   rfl
                  refine last_ (i := 23) (N := none) #[true, true, true, true, true, true, true, true, true, true, true, true, true, true, true, true, true, true, true, true, true, true, true, true] rfl rfl (one_of HT_.out (by kernel_rfl)) (by decide) (fun K hK => ?_)
                  have hs79 : w77.cell? ⟨gb178, 4, none⟩ = some (u179004) := (blk_cell BK178.out 4).trans rfl
                  have hfs79 := blk_frozen BK178.out 4
                  have hns79_0 := NB161_178.out
                  have hns79_1 := NB162_178.out
                  have hms79_0 := NB178_161.out
                  have hms79_1 := NB178_162.out
                  refine skip_ (w1 := ?_) (by rfl) rfl ?_ ?_
                  rotate_left
                  ·go_simp
                   rfl
                  refine hK.out _ _ ?_
                  clear hK K
                  refine done_ (done_of HT_.out (by kernel_rfl)) ?_
                  try go_wp2
                  go_roundg k5
                  case measure => have := HJ3.out; have := HK2.out; have := HK3.out; have := HJ44.out; have := HK5.out; omega
                  case rel => exact ⟨(wrap64 (x13_5 + 1)), (y181), (.slice Ao78 y181.length co78), (by first | rfl | (simp; done) | (simp [*]; done)), H', ⟨by have := HJ3.out; have := HK2.out; have := HK3.out; have := HJ44.out; have := HK5.out; omega⟩, ⟨by (with_reducible repeat (first | apply Kd.R_alloc | apply Kd.R_drewN | apply Kd.R_drew)); exact Kd.R_mono (Kd.R_far (p := ⟨gb178, 4, none⟩) (Kd.R_types HO183.out BK178.out (by decide)) (fun _ hk => hk.2) (.slice Ao78 y181.length co78)) (fun _ hk => trivial)⟩, ⟨by (with_reducible repeat (first | refine blk_drewN ?_ _ | refine blk_drew ?_ | refine blk_alloc ?_ _)); refine blk_far ?_ NB161_178.out _; (with_reducible repeat (first | refine blk_drewN ?_ _ | refine blk_drew ?_ | refine blk_alloc ?_ _)); exact BK161.out⟩, ⟨by (with_reducible repeat (first | refine blk_drewN ?_ _ | refine blk_drew ?_ | refine blk_alloc ?_ _)); refine blk_far ?_ NB162_178.out _; (with_reducible repeat (first | refine blk_drewN ?_ _ | refine blk_drew ?_ | refine blk_alloc ?_ _)); exact BK162.out⟩, ⟨by (with_reducible repeat (first | refine blk_drewN ?_ _ | refine blk_drew ?_ | refine blk_alloc ?_ _)); refine blk_put (cs := #[.int .i64 0, .int .i64 0, .int .i64 (wrap64 ((wrap64 ((wrap64 (a1_2 + ji40)) - ji42)) + 1)), .int .i64 0, u179004]) ?_ 4 _ rfl; (with_reducible repeat (first | refine blk_drewN ?_ _ | refine blk_drew ?_ | refine blk_alloc ?_ _)); exact BK178.out⟩, ⟨by repeat (first | (with_reducible first | exact HB.out | apply below_alloc | apply pw_below_drewN | apply below_drew1 | refine below_set ?_ GE161.out | refine below_set ?_ GE162.out | refine below_set ?_ GE178.out) | exact HB.out)⟩⟩
                 ·rw [if_neg c72] at H
                  exact absurd H (by simp)
                ·rw [if_neg c71] at H
                 exact absurd H (by simp)
               ·rw [if_neg c70] at H
                have c70b0 : decide (x13_5 < (l1_4.length : Int)) = false := decide_eq_false c70
                clear c70
                by_cases c80 : t163 = true
                ·subst c80
                 have H1 : ((river_Count.f a1_0 a1_1 a1_2 a1_3 l1_4 a0_0 a0_1 a0_2 a0_3 l0_4).bind fun t184 => (if t166 = t184 then (if t166 ≥ 0 then (if t166 ≤ (wrap64 ((t171.length : Int) * (t174.length : Int))) then ((river_Count.f a0_0 a0_1 a0_2 a0_3 l0_4 0 0 (wrap64 ((wrap64 ((wrap64 (a1_2 + ji40)) - ji42)) + 1)) 0 x179004_5).bind fun t185 => (if t185 = 0 then ((river_Count.f 0 0 (wrap64 ((wrap64 ((wrap64 (a1_2 + ji40)) - ji42)) + 1)) 0 x179004_5 0 0 (wrap64 ((wrap64 ((wrap64 (a1_2 + ji40)) - ji42)) + 1)) 0 x179004_5).bind fun t186 => ((river_Count.f a1_0 a1_1 a1_2 a1_3 l1_4 a1_0 a1_1 a1_2 a1_3 l1_4).bind fun t187 => (some (t186 == t187)))) else (none))) else (none)) else (none)) else (none))) = some r := by rw [if_pos rfl] at H; exact H
                 clear H
                 have H := H1
                 clear H1
                 replace H := Option.bind_eq_some_iff.mp H
                 obtain ⟨t184, A810, H⟩ := H
                 replace H : (if t166 = t184 then (if t166 ≥ 0 then (if t166 ≤ (wrap64 ((t171.length : Int) * (t174.length : Int))) then ((river_Count.f a0_0 a0_1 a0_2 a0_3 l0_4 0 0 (wrap64 ((wrap64 ((wrap64 (a1_2 + ji40)) - ji42)) + 1)) 0 x179004_5).bind fun t185 => (if t185 = 0 then ((river_Count.f 0 0 (wrap64 ((wrap64 ((wrap64 (a1_2 + ji40)) - ji42)) + 1)) 0 x179004_5 0 0 (wrap64 ((wrap64 ((wrap64 (a1_2 + ji40)) - ji42)) + 1)) 0 x179004_5).bind fun t186 => ((river_Count.f a1_0 a1_1 a1_2 a1_3 l1_4 a1_0 a1_1 a1_2 a1_3 l1_4).bind fun t187 => (some (t186 == t187)))) else (none))) else (none)) else (none)) else (none)) = some r := H
                 have A81 := Aside0.mk A810
                 clear A810
                 by_cases c82 : t166 = t184
                 ·rw [if_pos c82] at H
                  have c82b0 : (t166 == t184) = true := beq_iff_eq.mpr c82
                  have c82b1 : (t166 != t184) = false := bne_eq_false_iff_eq.mpr c82
                  clear c82
                  by_cases c83 : t166 ≥ 0
                  ·rw [if_pos c83] at H
                   have c83b0 : decide (0 ≤ t166) = true := decide_eq_true c83
                   clear c83
                   by_cases c84 : t166 ≤ (wrap64 ((t171.length : Int) * (t174.length : Int)))
                   ·rw [if_pos c84] at H
                    have c84b0 : decide (t166 ≤ (wrap64 ((t171.length : Int) * (t174.length : Int)))) = true := decide_eq_true c84
                    (try (have c84b1 : decide (t166 ≤ (IntKind.i64.wrap ((t171.length : Int) * (t174.length : Int)))) = true := by simp only [i64_w]; exact (decide_eq_true c84)))
                    clear c84
                    replace H := Option.bind_eq_some_iff.mp H
                    obtain ⟨t185, A850, H⟩ := H
                    replace H : (if t185 = 0 then ((river_Count.f 0 0 (wrap64 ((wrap64 ((wrap64 (a1_2 + ji40)) - ji42)) + 1)) 0 x179004_5 0 0 (wrap64 ((wrap64 ((wrap64 (a1_2 + ji40)) - ji42)) + 1)) 0 x179004_5).bind fun t186 => ((river_Count.f a1_0 a1_1 a1_2 a1_3 l1_4 a1_0 a1_1 a1_2 a1_3 l1_4).bind fun t187 => (some (t186 == t187)))) else (none)) = some r := H
                    have A85 := Aside0.mk A850
                    clear A850
                    by_cases c86 : t185 = 0
                    ·rw [if_pos c86] at H
                     have c86b0 : (t185 == 0) = true := beq_iff_eq.mpr c86
                     have c86b1 : (t185 != 0) = false := bne_eq_false_iff_eq.mpr c86
                     clear c86
                     replace H := Option.bind_eq_some_iff.mp H
                     obtain ⟨t186, A870, H⟩ := H
                     replace H : ((river_Count.f a1_0 a1_1 a1_2 a1_3 l1_4 a1_0 a1_1 a1_2 a1_3 l1_4).bind fun t187 => (some (t186 == t187))) = some r := H
                     have A87 := Aside0.mk A870
                     clear A870
                     replace H := Option.bind_eq_some_iff.mp H
                     obtain ⟨t187, A880, H⟩ := H
                     replace H : (some (t186 == t187)) = some r := H
                     have A88 := Aside0.mk A880
                     clear A880
                     obtain rfl := Option.some.inj H
                     have hnb89 := NB162_161.out
                     have hnc89 := NB161_162.out
                     have hnb90 := NB162_178.out
                     have hnc90 := NB178_162.out
                     have hcz91_0 : wr.cell? ⟨gb162, 0, none⟩ = some (.int .i64 a1_0) := (blk_cell BK162.out 0).trans rfl
                     have hcz91_1 : wr.cell? ⟨gb162, 1, none⟩ = some (.int .i64 a1_1) := (blk_cell BK162.out 1).trans rfl
                     have hcz91_2 : wr.cell? ⟨gb162, 2, none⟩ = some (.int .i64 a1_2) := (blk_cell BK162.out 2).trans rfl
                     have hcz91_3 : wr.cell? ⟨gb162, 3, none⟩ = some (.int .i64 a1_3) := (blk_cell BK162.out 3).trans rfl
                     have hcz91_4 : wr.cell? ⟨gb162, 4, none⟩ = some (.slice A1_4 l1_4.length c1_4) := (blk_cell BK162.out 4).trans rfl
                     have hfz91_0 := blk_frozen BK162.out 0
                     have hfz91_1 := blk_frozen BK162.out 1
                     have hfz91_2 := blk_frozen BK162.out 2
                     have hfz91_3 := blk_frozen BK162.out 3
                     have hfz91_4 := blk_frozen BK162.out 4
                     try go_wp2
                     have n0_ := Aside0.mk (Kd.R_drew HO_179004.out)
                     have n1_ := Aside0.mk (blk_drew BK161.out)
                     have n2_ := Aside0.mk (blk_drew BK162.out)
                     have n3_ := Aside0.mk (blk_drew BK178.out)
                     have n4_ := Aside0.mk (below_drew1 HB.out)
                     clear HO_179004
                     clear BK161
                     clear BK162
                     clear BK178
                     clear HB
                     have HO_179004 := n0_
                     have BK161 := n1_
                     have BK162 := n2_
                     have BK178 := n3_
                     have HB := n4_
                     clear n0_ n1_ n2_ n3_ n4_
                     refine start_ (n := 33) (S := fun w' => w'.cell? ⟨gb162, 0, none⟩ = some (.int .i64 a1_0) ∧ w'.cell? ⟨gb162, 1, none⟩ = some (.int .i64 a1_1) ∧ w'.cell? ⟨gb162, 2, none⟩ = some (.int .i64 a1_2) ∧ w'.cell? ⟨gb162, 3, none⟩ = some (.int .i64 a1_3) ∧ w'.cell? ⟨gb162, 4, none⟩ = some (.slice A1_4 l1_4.length c1_4) ∧ w'.cell? ⟨gb161, 0, none⟩ = some (.int .i64 a0_0) ∧ w'.cell? ⟨gb161, 1, none⟩ = some (.int .i64 a0_1) ∧ w'.cell? ⟨gb161, 2, none⟩ = some (.int .i64 a0_2) ∧ w'.cell? ⟨gb161, 3, none⟩ = some (.int .i64 a0_3) ∧ w'.cell? ⟨gb161, 4, none⟩ = some (.slice A0_4 l0_4.length c0_4) ∧ w'.cell? ⟨gb178, 0, none⟩ = some (.int .i64 0) ∧ w'.cell? ⟨gb178, 1, none⟩ = some (.int .i64 0) ∧ w'.cell? ⟨gb178, 2, none⟩ = some (.int .i64 (wrap64 ((wrap64 ((wrap64 (a1_2 + ji40)) - ji42)) + 1))) ∧ w'.cell? ⟨gb178, 3, none⟩ = some (.int .i64 0) ∧ w'.cell? ⟨gb178, 4, none⟩ = some (u179004)) (ds := []) #[false, false, false, false, false, false, false, false, false, false, false, false, false, false, false, false, false, false, false, false, false, false, false, false, false, false, false, false, false, false, false, false, false] (by kernel_rfl) rfl rfl ⟨(blk_cell BK162.out 0).trans rfl, (blk_cell BK162.out 1).trans rfl, (blk_cell BK162.out 2).trans rfl, (blk_cell BK162.out 3).trans rfl, (blk_cell BK162.out 4).trans rfl, (blk_cell BK161.out 0).trans rfl, (blk_cell BK161.out 1).trans rfl, (blk_cell BK161.out 2).trans rfl, (blk_cell BK161.out 3).trans rfl, (blk_cell BK161.out 4).trans rfl, (blk_cell BK178.out 0).trans rfl, (blk_cell BK178.out 1).trans rfl, (blk_cell BK178.out 2).trans rfl, (blk_cell BK178.out 3).trans rfl, (blk_cell BK178.out 4).trans rfl⟩ (fun hHeld => ?_); refine with_tabW compositorlaw20_RiverTurns.tab27 compositorlaw20_RiverTurns.bits27 (fun HT_ HW_ => ?_)
                     generalize wr.drew = w92 at HO_179004 BK161 BK162 BK178 HB hHeld ⊢
                     refine pure_ (i := 0) (N := some 153) (v := ?_) (a' := ?_) #[true, false, false, false, false, false, false, false, false, false, false, false, false, false, false, false, false, false, false, false, false, false, false, false, false, false, false, false, false, false, false, false, false] rfl rfl (any_of HT_.out (by kernel_rfl)) (fun _ _ _ h => h) (Or.inl ⟨by rfl, ?_⟩) ?_ ?_
                     rotate_left
                     ·intro w'
                      go_simp
                      with_reducible rfl
                     rotate_left
                     ·simp only [Act.put, List.setIfInBounds_toArray, List.set_cons_zero, List.set_cons_succ, i64_w, i32_w]
                      rfl
                     refine pure_ (i := 1) (N := some 154) (v := ?_) (a' := ?_) #[true, true, false, false, false, false, false, false, false, false, false, false, false, false, false, false, false, false, false, false, false, false, false, false, false, false, false, false, false, false, false, false, false] rfl rfl (any_of HT_.out (by kernel_rfl)) (fun _ _ _ h => h) (Or.inl ⟨by rfl, ?_⟩) ?_ ?_
                     rotate_left
                     ·intro w'
                      go_simp
                      with_reducible rfl
                     rotate_left
                     ·simp only [Act.put, List.setIfInBounds_toArray, List.set_cons_zero, List.set_cons_succ, i64_w, i32_w]
                      rfl
                     refine pure_ (i := 2) (N := some 155) (v := ?_) (a' := ?_) #[true, true, true, false, false, false, false, false, false, false, false, false, false, false, false, false, false, false, false, false, false, false, false, false, false, false, false, false, false, false, false, false, false] rfl rfl (any_of HT_.out (by kernel_rfl)) (fun _ _ _ h => h) (Or.inl ⟨by rfl, ?_⟩) ?_ ?_
                     rotate_left
                     ·intro w'
                      go_simp
                      with_reducible rfl
                     rotate_left
                     ·simp only [Act.put, List.setIfInBounds_toArray, List.set_cons_zero, List.set_cons_succ, i64_w, i32_w]
                      rfl
                     refine take_ (i := 3) (N := some 156) (v := ?_) (a' := ?_) #[true, true, true, true, false, false, false, false, false, false, false, false, false, false, false, false, false, false, false, false, false, false, false, false, false, false, false, false, false, false, false, false, false] rfl rfl (take_ofW HT_.out HW_.out (by kernel_rfl)) (fun _ _ _ h => h) (Or.inl ⟨by rfl, ?_⟩) hHeld ?_ ?_
                     rotate_left
                     ·rintro w' ⟨s0, s1, s2, s3, s4, s5, s6, s7, s8, s9, s10, s11, s12, s13, s14⟩
                      go_simp
                      with_reducible rfl
                     rotate_left
                     ·simp only [Act.put, List.setIfInBounds_toArray, List.set_cons_zero, List.set_cons_succ, i64_w, i32_w]
                      rfl
                     refine take_ (i := 4) (N := some 157) (v := ?_) (a' := ?_) #[true, true, true, true, true, false, false, false, false, false, false, false, false, false, false, false, false, false, false, false, false, false, false, false, false, false, false, false, false, false, false, false, false] rfl rfl (take_ofW HT_.out HW_.out (by kernel_rfl)) (fun _ _ _ h => h) (Or.inl ⟨by rfl, ?_⟩) hHeld ?_ ?_
                     rotate_left
                     ·rintro w' ⟨s0, s1, s2, s3, s4, s5, s6, s7, s8, s9, s10, s11, s12, s13, s14⟩
                      go_simp
                      with_reducible rfl
                     rotate_left
                     ·simp only [Act.put, List.setIfInBounds_toArray, List.set_cons_zero, List.set_cons_succ, i64_w, i32_w]
                      rfl
                     refine one_ (i := 5) (N := some 158) #[true, true, true, true, true, true, false, false, false, false, false, false, false, false, false, false, false, false, false, false, false, false, false, false, false, false, false, false, false, false, false, false, false] rfl rfl (one_of HT_.out (by kernel_rfl)) (by decide) (fun K hK => ?_)
                     refine goes_ Try.func12 (by kernel_rfl) rfl #[.agg #[.int .i64 a1_0, .int .i64 a1_1, .int .i64 a1_2, .int .i64 a1_3, .slice A1_4 l1_4.length c1_4], .agg #[.int .i64 a0_0, .int .i64 a0_1, .int .i64 a0_2, .int .i64 a0_3, .slice A0_4 l0_4.length c0_4]] (by rfl) rfl rfl (by (try simp only [List.map_toArray, List.map_cons, List.map_nil]); first | done | rfl | (simp only [List.length_drop, List.length_take]; rfl)) ?_
                     with_reducible refine (river_Count.calls a1_0 a1_1 a1_2 a1_3 _ _ l1_4 a0_0 a0_1 a0_2 a0_3 _ _ l0_4 t184 _ ?side1 ?side2 ?side3 ?side4 A81.out).mono ?_
                     (case side1 => repeat (first | exact (Kd.C_below HR1_4.out HB.out) | (with_reducible apply Kd.C_alloc) | (with_reducible apply Kd.C_drewN) | (with_reducible apply Kd.C_drew)))
                     (case side2 => exact HC1_4.out)
                     (case side3 => repeat (first | exact (Kd.C_below HR0_4.out HB.out) | (with_reducible apply Kd.C_alloc) | (with_reducible apply Kd.C_drewN) | (with_reducible apply Kd.C_drew)))
                     (case side4 => exact HC0_4.out)
                     rintro e w93 ⟨rfl, hb⟩
                     refine ⟨_, rfl, ?_⟩
                     have n0_ := Aside0.mk (Kd.R_below (by (with_reducible repeat (first | apply Kd.R_alloc | apply Kd.R_drewN | apply Kd.R_drew)); exact HO_179004.out) hb)
                     have n1_ := Aside0.mk (blk_below (g := gb161) (o := .cells #[.int .i64 a0_0, .int .i64 a0_1, .int .i64 a0_2, .int .i64 a0_3, .slice A0_4 l0_4.length c0_4] 24 (0, 0)) (by (with_reducible repeat (first | refine blk_drewN ?_ _ | refine blk_drew ?_ | refine blk_alloc ?_ _)); exact BK161.out) hb)
                     have n2_ := Aside0.mk (blk_below (g := gb162) (o := .cells #[.int .i64 a1_0, .int .i64 a1_1, .int .i64 a1_2, .int .i64 a1_3, .slice A1_4 l1_4.length c1_4] 24 (0, 0)) (by (with_reducible repeat (first | refine blk_drewN ?_ _ | refine blk_drew ?_ | refine blk_alloc ?_ _)); exact BK162.out) hb)
                     have n3_ := Aside0.mk (blk_below (g := gb178) (o := .cells #[.int .i64 0, .int .i64 0, .int .i64 (wrap64 ((wrap64 ((wrap64 (a1_2 + ji40)) - ji42)) + 1)), .int .i64 0, u179004] 24 (0, 0)) (by (with_reducible repeat (first | refine blk_drewN ?_ _ | refine blk_drew ?_ | refine blk_alloc ?_ _)); exact BK178.out) hb)
                     have n4_ := Aside0.mk (below_step (by repeat (first | (with_reducible first | exact HB.out | apply below_alloc | apply pw_below_drewN | apply below_drew1 | refine below_set ?_ GE161.out | refine below_set ?_ GE162.out | refine below_set ?_ GE178.out) | exact HB.out)) hb)
                     clear HO_179004
                     clear BK161
                     clear BK162
                     clear BK178
                     clear HB
                     have HO_179004 := n0_
                     have BK161 := n1_
                     have BK162 := n2_
                     have BK178 := n3_
                     have HB := n4_
                     clear n0_ n1_ n2_ n3_ n4_
                     (try clear hb)
                     (try clear hb2)
                     (try clear hk)
                     (try clear hi)
                     obtain ⟨Ao94, co94, eo94⟩ := Kd.R_slice HO_179004.out
                     (first | subst eo94 | (injection eo94 with f1_ f2_ f3_; have f4_ := f1_.symm; have f5_ := f3_.symm; clear f1_ f2_ f3_; subst f4_; subst f5_))
                     refine hK.out _ _ ⟨(blk_cell BK162.out 0).trans rfl, (blk_cell BK162.out 1).trans rfl, (blk_cell BK162.out 2).trans rfl, (blk_cell BK162.out 3).trans rfl, (blk_cell BK162.out 4).trans rfl, (blk_cell BK161.out 0).trans rfl, (blk_cell BK161.out 1).trans rfl, (blk_cell BK161.out 2).trans rfl, (blk_cell BK161.out 3).trans rfl, (blk_cell BK161.out 4).trans rfl, (blk_cell BK178.out 0).trans rfl, (blk_cell BK178.out 1).trans rfl, (blk_cell BK178.out 2).trans rfl, (blk_cell BK178.out 3).trans rfl, (blk_cell BK178.out 4).trans rfl⟩ (fun hHeld => ?_)
                     clear hK K
                     refine norm_ (a' := ?_) ?_ ?_
                     rotate_left
                     ·show Act.put _ (some 158) _ = _
                      simp only [Act.put, List.setIfInBounds_toArray, List.set_cons_zero, List.set_cons_succ, i64_w, i32_w]
                      rfl
                     refine pure_ (i := 6) (N := some 159) (v := ?_) (a' := ?_) #[true, true, true, true, true, true, true, false, false, false, false, false, false, false, false, false, false, false, false, false, false, false, false, false, false, false, false, false, false, false, false, false, false] rfl rfl (any_of HT_.out (by kernel_rfl)) (fun _ _ _ h => h) (Or.inl ⟨by rfl, ?_⟩) ?_ ?_
                     rotate_left
                     ·intro w'
                      go_simp
                      with_reducible rfl
                     rotate_left
                     ·simp only [Act.put, List.setIfInBounds_toArray, List.set_cons_zero, List.set_cons_succ, i64_w, i32_w]
                      rfl
                     refine pure_ (i := 7) (N := some 160) (v := ?_) (a' := ?_) #[true, true, true, true, true, true, true, true, false, false, false, false, false, false, false, false, false, false, false, false, false, false, false, false, false, false, false, false, false, false, false, false, false] rfl rfl (any_of HT_.out (by kernel_rfl)) (fun _ _ _ h => h) (Or.inl ⟨by rfl, ?_⟩) ?_ ?_
                     rotate_left
                     ·intro w'
                      go_simp
                      with_reducible rfl
                     rotate_left
                     ·simp only [Act.put, List.setIfInBounds_toArray, List.set_cons_zero, List.set_cons_succ, i64_w, i32_w]
                      rfl
                     refine pure_ (i := 8) (N := some 161) (v := ?_) (a' := ?_) #[true, true, true, true, true, true, true, true, true, false, false, false, false, false, false, false, false, false, false, false, false, false, false, false, false, false, false, false, false, false, false, false, false] rfl rfl (any_of HT_.out (by kernel_rfl)) (fun _ _ _ h => h) (Or.inl ⟨by rfl, ?_⟩) ?_ ?_
                     rotate_left
                     ·intro w'
                      go_simp
                      with_reducible rfl
                     rotate_left
                     ·simp only [Act.put, List.setIfInBounds_toArray, List.set_cons_zero, List.set_cons_succ, i64_w, i32_w]
                      rfl
                     refine pure_ (i := 9) (N := some 162) (v := ?_) (a' := ?_) #[true, true, true, true, true, true, true, true, true, true, false, false, false, false, false, false, false, false, false, false, false, false, false, false, false, false, false, false, false, false, false, false, false] rfl rfl (any_of HT_.out (by kernel_rfl)) (fun _ _ _ h => h) (Or.inl ⟨by rfl, ?_⟩) ?_ ?_
                     rotate_left
                     ·intro w'
                      go_simp
                      with_reducible rfl
                     rotate_left
                     ·simp only [Act.put, List.setIfInBounds_toArray, List.set_cons_zero, List.set_cons_succ, i64_w, i32_w]
                      rfl
                     refine pure_ (i := 10) (N := some 163) (v := ?_) (a' := ?_) #[true, true, true, true, true, true, true, true, true, true, true, false, false, false, false, false, false, false, false, false, false, false, false, false, false, false, false, false, false, false, false, false, false] rfl rfl (any_of HT_.out (by kernel_rfl)) (fun _ _ _ h => h) (Or.inl ⟨by rfl, ?_⟩) ?_ ?_
                     rotate_left
                     ·intro w'
                      go_simp
                      with_reducible rfl
                     rotate_left
                     ·simp only [Act.put, List.setIfInBounds_toArray, List.set_cons_zero, List.set_cons_succ, i64_w, i32_w]
                      rfl
                     refine pure_ (i := 11) (N := some 164) (v := ?_) (a' := ?_) #[true, true, true, true, true, true, true, true, true, true, true, true, false, false, false, false, false, false, false, false, false, false, false, false, false, false, false, false, false, false, false, false, false] rfl rfl (any_of HT_.out (by kernel_rfl)) (fun _ _ _ h => h) (Or.inl ⟨by rfl, ?_⟩) ?_ ?_
                     rotate_left
                     ·intro w'
                      go_simp
                      with_reducible rfl
                     rotate_left
                     ·simp only [Act.put, List.setIfInBounds_toArray, List.set_cons_zero, List.set_cons_succ, i64_w, i32_w]
                      rfl
                     refine pure_ (i := 12) (N := some 165) (v := ?_) (a' := ?_) #[true, true, true, true, true, true, true, true, true, true, true, true, true, false, false, false, false, false, false, false, false, false, false, false, false, false, false, false, false, false, false, false, false] rfl rfl (any_of HT_.out (by kernel_rfl)) (fun _ _ _ h => h) (Or.inl ⟨by rfl, ?_⟩) ?_ ?_
                     rotate_left
                     ·intro w'
                      go_simp
                      with_reducible rfl
                     rotate_left
                     ·simp only [Act.put, List.setIfInBounds_toArray, List.set_cons_zero, List.set_cons_succ, i64_w, i32_w]
                      rfl
                     refine pure_ (i := 13) (N := some 166) (v := ?_) (a' := ?_) #[true, true, true, true, true, true, true, true, true, true, true, true, true, true, false, false, false, false, false, false, false, false, false, false, false, false, false, false, false, false, false, false, false] rfl rfl (any_of HT_.out (by kernel_rfl)) (fun _ _ _ h => h) (Or.inl ⟨by rfl, ?_⟩) ?_ ?_
                     rotate_left
                     ·intro w'
                      go_simp
                      with_reducible rfl
                     rotate_left
                     ·simp only [Act.put, List.setIfInBounds_toArray, List.set_cons_zero, List.set_cons_succ, i64_w, i32_w]
                      rfl
                     refine pure_ (i := 14) (N := some 167) (v := ?_) (a' := ?_) #[true, true, true, true, true, true, true, true, true, true, true, true, true, true, true, false, false, false, false, false, false, false, false, false, false, false, false, false, false, false, false, false, false] rfl rfl (any_of HT_.out (by kernel_rfl)) (fun _ _ _ h => h) (Or.inl ⟨by rfl, ?_⟩) ?_ ?_
                     rotate_left
                     ·intro w'
                      go_simp
                      with_reducible rfl
                     rotate_left
                     ·simp only [Act.put, List.setIfInBounds_toArray, List.set_cons_zero, List.set_cons_succ, i64_w, i32_w]
                      rfl
                     refine pure_ (i := 15) (N := some 168) (v := ?_) (a' := ?_) #[true, true, true, true, true, true, true, true, true, true, true, true, true, true, true, true, false, false, false, false, false, false, false, false, false, false, false, false, false, false, false, false, false] rfl rfl (any_of HT_.out (by kernel_rfl)) (fun _ _ _ h => h) (Or.inl ⟨by rfl, ?_⟩) ?_ ?_
                     rotate_left
                     ·intro w'
                      go_simp
                      with_reducible rfl
                     rotate_left
                     ·simp only [Act.put, List.setIfInBounds_toArray, List.set_cons_zero, List.set_cons_succ, i64_w, i32_w]
                      rfl
                     refine pure_ (i := 16) (N := some 169) (v := ?_) (a' := ?_) #[true, true, true, true, true, true, true, true, true, true, true, true, true, true, true, true, true, false, false, false, false, false, false, false, false, false, false, false, false, false, false, false, false] rfl rfl (any_of HT_.out (by kernel_rfl)) (fun _ _ _ h => h) (Or.inl ⟨by rfl, ?_⟩) ?_ ?_
                     rotate_left
                     ·intro w'
                      go_simp
                      with_reducible rfl
                     rotate_left
                     ·simp only [Act.put, List.setIfInBounds_toArray, List.set_cons_zero, List.set_cons_succ, i64_w, i32_w]
                      rfl
                     refine pure_ (i := 17) (N := some 170) (v := ?_) (a' := ?_) #[true, true, true, true, true, true, true, true, true, true, true, true, true, true, true, true, true, true, false, false, false, false, false, false, false, false, false, false, false, false, false, false, false] rfl rfl (any_of HT_.out (by kernel_rfl)) (fun _ _ _ h => h) (Or.inl ⟨by rfl, ?_⟩) ?_ ?_
                     rotate_left
                     ·intro w'
                      go_simp
                      with_reducible rfl
                     rotate_left
                     ·simp only [Act.put, List.setIfInBounds_toArray, List.set_cons_zero, List.set_cons_succ, i64_w, i32_w]
                      rfl
                     refine take_ (i := 18) (N := some 171) (v := ?_) (a' := ?_) #[true, true, true, true, true, true, true, true, true, true, true, true, true, true, true, true, true, true, true, false, false, false, false, false, false, false, false, false, false, false, false, false, false] rfl rfl (take_ofW HT_.out HW_.out (by kernel_rfl)) (fun _ _ _ h => h) (Or.inl ⟨by rfl, ?_⟩) hHeld ?_ ?_
                     rotate_left
                     ·rintro w' ⟨s0, s1, s2, s3, s4, s5, s6, s7, s8, s9, s10, s11, s12, s13, s14⟩
                      go_simp
                      with_reducible rfl
                     rotate_left
                     ·simp only [Act.put, List.setIfInBounds_toArray, List.set_cons_zero, List.set_cons_succ, i64_w, i32_w]
                      rfl
                     refine take_ (i := 19) (N := some 172) (v := ?_) (a' := ?_) #[true, true, true, true, true, true, true, true, true, true, true, true, true, true, true, true, true, true, true, true, false, false, false, false, false, false, false, false, false, false, false, false, false] rfl rfl (take_ofW HT_.out HW_.out (by kernel_rfl)) (fun _ _ _ h => h) (Or.inl ⟨by rfl, ?_⟩) hHeld ?_ ?_
                     rotate_left
                     ·rintro w' ⟨s0, s1, s2, s3, s4, s5, s6, s7, s8, s9, s10, s11, s12, s13, s14⟩
                      go_simp
                      with_reducible rfl
                     rotate_left
                     ·simp only [Act.put, List.setIfInBounds_toArray, List.set_cons_zero, List.set_cons_succ, i64_w, i32_w]
                      rfl
                     refine one_ (i := 20) (N := some 173) #[true, true, true, true, true, true, true, true, true, true, true, true, true, true, true, true, true, true, true, true, true, false, false, false, false, false, false, false, false, false, false, false, false] rfl rfl (one_of HT_.out (by kernel_rfl)) (by decide) (fun K hK => ?_)
                     refine goes_ Try.func12 (by kernel_rfl) rfl #[.agg #[.int .i64 a0_0, .int .i64 a0_1, .int .i64 a0_2, .int .i64 a0_3, .slice A0_4 l0_4.length c0_4], .agg #[.int .i64 0, .int .i64 0, .int .i64 (wrap64 ((wrap64 ((wrap64 (a1_2 + ji40)) - ji42)) + 1)), .int .i64 0, .slice Ao94 x179004_5.length co94]] (by rfl) rfl rfl (by (try simp only [List.map_toArray, List.map_cons, List.map_nil]); first | done | (simp only [hji40, hji42]; rfl) | rfl | (simp only [List.length_drop, List.length_take]; rfl)) ?_
                     with_reducible refine (river_Count.calls a0_0 a0_1 a0_2 a0_3 _ _ l0_4 0 0 (wrap64 ((wrap64 ((wrap64 (a1_2 + ji40)) - ji42)) + 1)) 0 _ _ x179004_5 t185 _ ?side1 ?side2 ?side3 ?side4 A85.out).mono ?_
                     (case side1 => repeat (first | exact (Kd.C_below HR0_4.out HB.out) | (with_reducible apply Kd.C_alloc) | (with_reducible apply Kd.C_drewN) | (with_reducible apply Kd.C_drew)))
                     (case side2 => exact HC0_4.out)
                     (case side3 => repeat (first | exact (Kd.R_reads' HO_179004.out).2.2 | (with_reducible apply Kd.C_alloc) | (with_reducible apply Kd.C_drewN) | (with_reducible apply Kd.C_drew)))
                     (case side4 => exact (Kd.R_reads' HO_179004.out).2.1)
                     rintro e w95 ⟨rfl, hb⟩
                     refine ⟨_, rfl, ?_⟩
                     have n0_ := Aside0.mk (Kd.R_below (by (with_reducible repeat (first | apply Kd.R_alloc | apply Kd.R_drewN | apply Kd.R_drew)); exact HO_179004.out) hb)
                     have n1_ := Aside0.mk (blk_below (g := gb161) (o := .cells #[.int .i64 a0_0, .int .i64 a0_1, .int .i64 a0_2, .int .i64 a0_3, .slice A0_4 l0_4.length c0_4] 24 (0, 0)) (by (with_reducible repeat (first | refine blk_drewN ?_ _ | refine blk_drew ?_ | refine blk_alloc ?_ _)); exact BK161.out) hb)
                     have n2_ := Aside0.mk (blk_below (g := gb162) (o := .cells #[.int .i64 a1_0, .int .i64 a1_1, .int .i64 a1_2, .int .i64 a1_3, .slice A1_4 l1_4.length c1_4] 24 (0, 0)) (by (with_reducible repeat (first | refine blk_drewN ?_ _ | refine blk_drew ?_ | refine blk_alloc ?_ _)); exact BK162.out) hb)
                     have n3_ := Aside0.mk (blk_below (g := gb178) (o := .cells #[.int .i64 0, .int .i64 0, .int .i64 (wrap64 ((wrap64 ((wrap64 (a1_2 + ji40)) - ji42)) + 1)), .int .i64 0, .slice Ao94 x179004_5.length co94] 24 (0, 0)) (by (with_reducible repeat (first | refine blk_drewN ?_ _ | refine blk_drew ?_ | refine blk_alloc ?_ _)); exact BK178.out) hb)
                     have n4_ := Aside0.mk (below_step (by repeat (first | (with_reducible first | exact HB.out | apply below_alloc | apply pw_below_drewN | apply below_drew1 | refine below_set ?_ GE161.out | refine below_set ?_ GE162.out | refine below_set ?_ GE178.out) | exact HB.out)) hb)
                     clear HO_179004
                     clear BK161
                     clear BK162
                     clear BK178
                     clear HB
                     have HO_179004 := n0_
                     have BK161 := n1_
                     have BK162 := n2_
                     have BK178 := n3_
                     have HB := n4_
                     clear n0_ n1_ n2_ n3_ n4_
                     (try clear hb)
                     (try clear hb2)
                     (try clear hk)
                     (try clear hi)
                     refine hK.out _ _ ⟨(blk_cell BK162.out 0).trans rfl, (blk_cell BK162.out 1).trans rfl, (blk_cell BK162.out 2).trans rfl, (blk_cell BK162.out 3).trans rfl, (blk_cell BK162.out 4).trans rfl, (blk_cell BK161.out 0).trans rfl, (blk_cell BK161.out 1).trans rfl, (blk_cell BK161.out 2).trans rfl, (blk_cell BK161.out 3).trans rfl, (blk_cell BK161.out 4).trans rfl, (blk_cell BK178.out 0).trans rfl, (blk_cell BK178.out 1).trans rfl, (blk_cell BK178.out 2).trans rfl, (blk_cell BK178.out 3).trans rfl, (blk_cell BK178.out 4).trans rfl⟩ (fun hHeld => ?_)
                     clear hK K
                     refine norm_ (a' := ?_) ?_ ?_
                     rotate_left
                     ·show Act.put _ (some 173) _ = _
                      simp only [Act.put, List.setIfInBounds_toArray, List.set_cons_zero, List.set_cons_succ, i64_w, i32_w]
                      rfl
                     refine pure_ (i := 21) (N := some 174) (v := ?_) (a' := ?_) #[true, true, true, true, true, true, true, true, true, true, true, true, true, true, true, true, true, true, true, true, true, true, false, false, false, false, false, false, false, false, false, false, false] rfl rfl (any_of HT_.out (by kernel_rfl)) (fun _ _ _ h => h) (Or.inl ⟨by rfl, ?_⟩) ?_ ?_
                     rotate_left
                     ·intro w'
                      go_simp
                      with_reducible rfl
                     rotate_left
                     ·simp only [Act.put, List.setIfInBounds_toArray, List.set_cons_zero, List.set_cons_succ, i64_w, i32_w]
                      rfl
                     refine pure_ (i := 22) (N := some 175) (v := ?_) (a' := ?_) #[true, true, true, true, true, true, true, true, true, true, true, true, true, true, true, true, true, true, true, true, true, true, true, false, false, false, false, false, false, false, false, false, false] rfl rfl (any_of HT_.out (by kernel_rfl)) (fun _ _ _ h => h) (Or.inl ⟨by rfl, ?_⟩) ?_ ?_
                     rotate_left
                     ·intro w'
                      go_simp
                      with_reducible rfl
                     rotate_left
                     ·simp only [Act.put, List.setIfInBounds_toArray, List.set_cons_zero, List.set_cons_succ, i64_w, i32_w]
                      rfl
                     refine pure_ (i := 23) (N := some 176) (v := ?_) (a' := ?_) #[true, true, true, true, true, true, true, true, true, true, true, true, true, true, true, true, true, true, true, true, true, true, true, true, false, false, false, false, false, false, false, false, false] rfl rfl (any_of HT_.out (by kernel_rfl)) (fun _ _ _ h => h) (Or.inl ⟨by rfl, ?_⟩) ?_ ?_
                     rotate_left
                     ·intro w'
                      go_simp
                      with_reducible rfl
                     rotate_left
                     ·simp only [Act.put, List.setIfInBounds_toArray, List.set_cons_zero, List.set_cons_succ, i64_w, i32_w]
                      rfl
                     refine take_ (i := 24) (N := some 177) (v := ?_) (a' := ?_) #[true, true, true, true, true, true, true, true, true, true, true, true, true, true, true, true, true, true, true, true, true, true, true, true, true, false, false, false, false, false, false, false, false] rfl rfl (take_ofW HT_.out HW_.out (by kernel_rfl)) (fun _ _ _ h => h) (Or.inl ⟨by rfl, ?_⟩) hHeld ?_ ?_
                     rotate_left
                     ·rintro w' ⟨s0, s1, s2, s3, s4, s5, s6, s7, s8, s9, s10, s11, s12, s13, s14⟩
                      go_simp
                      with_reducible rfl
                     rotate_left
                     ·simp only [Act.put, List.setIfInBounds_toArray, List.set_cons_zero, List.set_cons_succ, i64_w, i32_w]
                      rfl
                     refine take_ (i := 25) (N := some 178) (v := ?_) (a' := ?_) #[true, true, true, true, true, true, true, true, true, true, true, true, true, true, true, true, true, true, true, true, true, true, true, true, true, true, false, false, false, false, false, false, false] rfl rfl (take_ofW HT_.out HW_.out (by kernel_rfl)) (fun _ _ _ h => h) (Or.inl ⟨by rfl, ?_⟩) hHeld ?_ ?_
                     rotate_left
                     ·rintro w' ⟨s0, s1, s2, s3, s4, s5, s6, s7, s8, s9, s10, s11, s12, s13, s14⟩
                      go_simp
                      with_reducible rfl
                     rotate_left
                     ·simp only [Act.put, List.setIfInBounds_toArray, List.set_cons_zero, List.set_cons_succ, i64_w, i32_w]
                      rfl
                     refine take_ (i := 27) (N := some 180) (v := ?_) (a' := ?_) #[true, true, true, true, true, true, true, true, true, true, true, true, true, true, true, true, true, true, true, true, true, true, true, true, true, true, false, true, false, false, false, false, false] rfl rfl (take_ofW HT_.out HW_.out (by kernel_rfl)) (fun _ _ _ h => h) (Or.inl ⟨by rfl, ?_⟩) hHeld ?_ ?_
                     rotate_left
                     ·rintro w' ⟨s0, s1, s2, s3, s4, s5, s6, s7, s8, s9, s10, s11, s12, s13, s14⟩
                      go_simp
                      with_reducible rfl
                     rotate_left
                     ·simp only [Act.put, List.setIfInBounds_toArray, List.set_cons_zero, List.set_cons_succ, i64_w, i32_w]
                      rfl
                     refine take_ (i := 28) (N := some 181) (v := ?_) (a' := ?_) #[true, true, true, true, true, true, true, true, true, true, true, true, true, true, true, true, true, true, true, true, true, true, true, true, true, true, false, true, true, false, false, false, false] rfl rfl (take_ofW HT_.out HW_.out (by kernel_rfl)) (fun _ _ _ h => h) (Or.inl ⟨by rfl, ?_⟩) hHeld ?_ ?_
                     rotate_left
                     ·rintro w' ⟨s0, s1, s2, s3, s4, s5, s6, s7, s8, s9, s10, s11, s12, s13, s14⟩
                      go_simp
                      with_reducible rfl
                     rotate_left
                     ·simp only [Act.put, List.setIfInBounds_toArray, List.set_cons_zero, List.set_cons_succ, i64_w, i32_w]
                      rfl
                     refine one_ (i := 26) (N := some 179) #[true, true, true, true, true, true, true, true, true, true, true, true, true, true, true, true, true, true, true, true, true, true, true, true, true, true, true, true, true, false, false, false, false] rfl rfl (one_of HT_.out (by kernel_rfl)) (by decide) (fun K hK => ?_)
                     refine goes_ Try.func12 (by kernel_rfl) rfl #[.agg #[.int .i64 0, .int .i64 0, .int .i64 (wrap64 ((wrap64 ((wrap64 (a1_2 + ji40)) - ji42)) + 1)), .int .i64 0, .slice Ao94 x179004_5.length co94], .agg #[.int .i64 0, .int .i64 0, .int .i64 (wrap64 ((wrap64 ((wrap64 (a1_2 + ji40)) - ji42)) + 1)), .int .i64 0, .slice Ao94 x179004_5.length co94]] (by rfl) rfl rfl (by (try simp only [List.map_toArray, List.map_cons, List.map_nil]); first | done | (simp only [hji40, hji42]; rfl) | rfl | (simp only [List.length_drop, List.length_take]; rfl)) ?_
                     with_reducible refine (river_Count.calls 0 0 (wrap64 ((wrap64 ((wrap64 (a1_2 + ji40)) - ji42)) + 1)) 0 _ _ x179004_5 0 0 (wrap64 ((wrap64 ((wrap64 (a1_2 + ji40)) - ji42)) + 1)) 0 _ _ x179004_5 t186 _ ?side1 ?side2 ?side3 ?side4 A87.out).mono ?_
                     (case side1 => repeat (first | exact (Kd.R_reads' HO_179004.out).2.2 | (with_reducible apply Kd.C_alloc) | (with_reducible apply Kd.C_drewN) | (with_reducible apply Kd.C_drew)))
                     (case side2 => exact (Kd.R_reads' HO_179004.out).2.1)
                     (case side3 => repeat (first | exact (Kd.R_reads' HO_179004.out).2.2 | (with_reducible apply Kd.C_alloc) | (with_reducible apply Kd.C_drewN) | (with_reducible apply Kd.C_drew)))
                     (case side4 => exact (Kd.R_reads' HO_179004.out).2.1)
                     rintro e w96 ⟨rfl, hb⟩
                     refine ⟨_, rfl, ?_⟩
                     have n0_ := Aside0.mk (Kd.R_below (by (with_reducible repeat (first | apply Kd.R_alloc | apply Kd.R_drewN | apply Kd.R_drew)); exact HO_179004.out) hb)
                     have n1_ := Aside0.mk (blk_below (g := gb161) (o := .cells #[.int .i64 a0_0, .int .i64 a0_1, .int .i64 a0_2, .int .i64 a0_3, .slice A0_4 l0_4.length c0_4] 24 (0, 0)) (by (with_reducible repeat (first | refine blk_drewN ?_ _ | refine blk_drew ?_ | refine blk_alloc ?_ _)); exact BK161.out) hb)
                     have n2_ := Aside0.mk (blk_below (g := gb162) (o := .cells #[.int .i64 a1_0, .int .i64 a1_1, .int .i64 a1_2, .int .i64 a1_3, .slice A1_4 l1_4.length c1_4] 24 (0, 0)) (by (with_reducible repeat (first | refine blk_drewN ?_ _ | refine blk_drew ?_ | refine blk_alloc ?_ _)); exact BK162.out) hb)
                     have n3_ := Aside0.mk (blk_below (g := gb178) (o := .cells #[.int .i64 0, .int .i64 0, .int .i64 (wrap64 ((wrap64 ((wrap64 (a1_2 + ji40)) - ji42)) + 1)), .int .i64 0, .slice Ao94 x179004_5.length co94] 24 (0, 0)) (by (with_reducible repeat (first | refine blk_drewN ?_ _ | refine blk_drew ?_ | refine blk_alloc ?_ _)); exact BK178.out) hb)
                     have n4_ := Aside0.mk (below_step (by repeat (first | (with_reducible first | exact HB.out | apply below_alloc | apply pw_below_drewN | apply below_drew1 | refine below_set ?_ GE161.out | refine below_set ?_ GE162.out | refine below_set ?_ GE178.out) | exact HB.out)) hb)
                     clear HO_179004
                     clear BK161
                     clear BK162
                     clear BK178
                     clear HB
                     have HO_179004 := n0_
                     have BK161 := n1_
                     have BK162 := n2_
                     have BK178 := n3_
                     have HB := n4_
                     clear n0_ n1_ n2_ n3_ n4_
                     (try clear hb)
                     (try clear hb2)
                     (try clear hk)
                     (try clear hi)
                     refine hK.out _ _ ⟨(blk_cell BK162.out 0).trans rfl, (blk_cell BK162.out 1).trans rfl, (blk_cell BK162.out 2).trans rfl, (blk_cell BK162.out 3).trans rfl, (blk_cell BK162.out 4).trans rfl, (blk_cell BK161.out 0).trans rfl, (blk_cell BK161.out 1).trans rfl, (blk_cell BK161.out 2).trans rfl, (blk_cell BK161.out 3).trans rfl, (blk_cell BK161.out 4).trans rfl, (blk_cell BK178.out 0).trans rfl, (blk_cell BK178.out 1).trans rfl, (blk_cell BK178.out 2).trans rfl, (blk_cell BK178.out 3).trans rfl, (blk_cell BK178.out 4).trans rfl⟩ (fun hHeld => ?_)
                     clear hK K
                     refine norm_ (a' := ?_) ?_ ?_
                     rotate_left
                     ·show Act.put _ (some 179) _ = _
                      simp only [Act.put, List.setIfInBounds_toArray, List.set_cons_zero, List.set_cons_succ, i64_w, i32_w]
                      rfl
                     refine one_ (i := 29) (N := some 182) #[true, true, true, true, true, true, true, true, true, true, true, true, true, true, true, true, true, true, true, true, true, true, true, true, true, true, true, true, true, true, false, false, false] rfl rfl (one_of HT_.out (by kernel_rfl)) (by decide) (fun K hK => ?_)
                     refine goes_ Try.func12 (by kernel_rfl) rfl #[.agg #[.int .i64 a1_0, .int .i64 a1_1, .int .i64 a1_2, .int .i64 a1_3, .slice A1_4 l1_4.length c1_4], .agg #[.int .i64 a1_0, .int .i64 a1_1, .int .i64 a1_2, .int .i64 a1_3, .slice A1_4 l1_4.length c1_4]] (by rfl) rfl rfl (by (try simp only [List.map_toArray, List.map_cons, List.map_nil]); first | done | rfl | (simp only [List.length_drop, List.length_take]; rfl)) ?_
                     with_reducible refine (river_Count.calls a1_0 a1_1 a1_2 a1_3 _ _ l1_4 a1_0 a1_1 a1_2 a1_3 _ _ l1_4 t187 _ ?side1 ?side2 ?side3 ?side4 A88.out).mono ?_
                     (case side1 => repeat (first | exact (Kd.C_below HR1_4.out HB.out) | (with_reducible apply Kd.C_alloc) | (with_reducible apply Kd.C_drewN) | (with_reducible apply Kd.C_drew)))
                     (case side2 => exact HC1_4.out)
                     (case side3 => repeat (first | exact (Kd.C_below HR1_4.out HB.out) | (with_reducible apply Kd.C_alloc) | (with_reducible apply Kd.C_drewN) | (with_reducible apply Kd.C_drew)))
                     (case side4 => exact HC1_4.out)
                     rintro e w97 ⟨rfl, hb⟩
                     refine ⟨_, rfl, ?_⟩
                     have n0_ := Aside0.mk (Kd.R_below (by (with_reducible repeat (first | apply Kd.R_alloc | apply Kd.R_drewN | apply Kd.R_drew)); exact HO_179004.out) hb)
                     have n1_ := Aside0.mk (blk_below (g := gb161) (o := .cells #[.int .i64 a0_0, .int .i64 a0_1, .int .i64 a0_2, .int .i64 a0_3, .slice A0_4 l0_4.length c0_4] 24 (0, 0)) (by (with_reducible repeat (first | refine blk_drewN ?_ _ | refine blk_drew ?_ | refine blk_alloc ?_ _)); exact BK161.out) hb)
                     have n2_ := Aside0.mk (blk_below (g := gb162) (o := .cells #[.int .i64 a1_0, .int .i64 a1_1, .int .i64 a1_2, .int .i64 a1_3, .slice A1_4 l1_4.length c1_4] 24 (0, 0)) (by (with_reducible repeat (first | refine blk_drewN ?_ _ | refine blk_drew ?_ | refine blk_alloc ?_ _)); exact BK162.out) hb)
                     have n3_ := Aside0.mk (blk_below (g := gb178) (o := .cells #[.int .i64 0, .int .i64 0, .int .i64 (wrap64 ((wrap64 ((wrap64 (a1_2 + ji40)) - ji42)) + 1)), .int .i64 0, .slice Ao94 x179004_5.length co94] 24 (0, 0)) (by (with_reducible repeat (first | refine blk_drewN ?_ _ | refine blk_drew ?_ | refine blk_alloc ?_ _)); exact BK178.out) hb)
                     have n4_ := Aside0.mk (below_step (by repeat (first | (with_reducible first | exact HB.out | apply below_alloc | apply pw_below_drewN | apply below_drew1 | refine below_set ?_ GE161.out | refine below_set ?_ GE162.out | refine below_set ?_ GE178.out) | exact HB.out)) hb)
                     clear HO_179004
                     clear BK161
                     clear BK162
                     clear BK178
                     clear HB
                     have HO_179004 := n0_
                     have BK161 := n1_
                     have BK162 := n2_
                     have BK178 := n3_
                     have HB := n4_
                     clear n0_ n1_ n2_ n3_ n4_
                     (try clear hb)
                     (try clear hb2)
                     (try clear hk)
                     (try clear hi)
                     refine hK.out _ _ ⟨(blk_cell BK162.out 0).trans rfl, (blk_cell BK162.out 1).trans rfl, (blk_cell BK162.out 2).trans rfl, (blk_cell BK162.out 3).trans rfl, (blk_cell BK162.out 4).trans rfl, (blk_cell BK161.out 0).trans rfl, (blk_cell BK161.out 1).trans rfl, (blk_cell BK161.out 2).trans rfl, (blk_cell BK161.out 3).trans rfl, (blk_cell BK161.out 4).trans rfl, (blk_cell BK178.out 0).trans rfl, (blk_cell BK178.out 1).trans rfl, (blk_cell BK178.out 2).trans rfl, (blk_cell BK178.out 3).trans rfl, (blk_cell BK178.out 4).trans rfl⟩ (fun hHeld => ?_)
                     clear hK K
                     refine norm_ (a' := ?_) ?_ ?_
                     rotate_left
                     ·show Act.put _ (some 182) _ = _
                      simp only [Act.put, List.setIfInBounds_toArray, List.set_cons_zero, List.set_cons_succ, i64_w, i32_w]
                      rfl
                     refine pure_ (i := 30) (N := some 183) (v := ?_) (a' := ?_) #[true, true, true, true, true, true, true, true, true, true, true, true, true, true, true, true, true, true, true, true, true, true, true, true, true, true, true, true, true, true, true, false, false] rfl rfl (any_of HT_.out (by kernel_rfl)) (fun _ _ _ h => h) (Or.inl ⟨by rfl, ?_⟩) ?_ ?_
                     rotate_left
                     ·intro w'
                      go_simp
                      with_reducible rfl
                     rotate_left
                     ·simp only [Act.put, List.setIfInBounds_toArray, List.set_cons_zero, List.set_cons_succ, i64_w, i32_w]
                      rfl
                     refine pure_ (i := 31) (N := some 184) (v := ?_) (a' := ?_) #[true, true, true, true, true, true, true, true, true, true, true, true, true, true, true, true, true, true, true, true, true, true, true, true, true, true, true, true, true, true, true, true, false] rfl rfl (any_of HT_.out (by kernel_rfl)) (fun _ _ _ h => h) (Or.inl ⟨by rfl, ?_⟩) ?_ ?_
                     rotate_left
                     ·intro w'
                      go_simp
                      with_reducible rfl
                     rotate_left
                     ·simp only [Act.put, List.setIfInBounds_toArray, List.set_cons_zero, List.set_cons_succ, i64_w, i32_w]
                      rfl
                     refine pure_ (i := 32) (N := some 4) (v := ?_) (a' := ?_) #[true, true, true, true, true, true, true, true, true, true, true, true, true, true, true, true, true, true, true, true, true, true, true, true, true, true, true, true, true, true, true, true, true] rfl rfl (any_of HT_.out (by kernel_rfl)) (fun _ _ _ h => h) (Or.inl ⟨by rfl, ?_⟩) ?_ ?_
                     rotate_left
                     ·intro w'
                      go_simp
                      with_reducible rfl
                     rotate_left
                     ·simp only [Act.put, List.setIfInBounds_toArray, List.set_cons_zero, List.set_cons_succ, i64_w, i32_w]
                      rfl
                     refine done_ (done_of HT_.out (by kernel_rfl)) ?_
                     try go_wp2
                     go_ret
                     exact ⟨by first | rfl | (simp [errW_none, errW_some] <;> rfl) | (simp only [← hji39, ← hji40, ← hji41, ← hji42]; first | rfl | (simp [errW_none, errW_some] <;> rfl)) | (simp [*, errW_none, errW_some] <;> rfl), by repeat (first | (with_reducible first | exact HB.out | apply below_alloc | apply pw_below_drewN | apply below_drew1 | refine below_set ?_ GE161.out | refine below_set ?_ GE162.out | refine below_set ?_ GE178.out) | exact HB.out)⟩
                    ·rw [if_neg c86] at H
                     have c86b0 : (t185 == 0) = false := beq_eq_false_iff_ne.mpr c86
                     have c86b1 : (t185 != 0) = true := bne_iff_ne.mpr c86
                     exact absurd H (by simp)
                   ·rw [if_neg c84] at H
                    have c84b0 : decide (t166 ≤ (wrap64 ((t171.length : Int) * (t174.length : Int)))) = false := decide_eq_false c84
                    (try (have c84b1 : decide (t166 ≤ (IntKind.i64.wrap ((t171.length : Int) * (t174.length : Int)))) = false := by simp only [i64_w]; exact (decide_eq_false c84)))
                    clear c84
                    exact absurd H (by simp)
                  ·rw [if_neg c83] at H
                   have c83b0 : decide (0 ≤ t166) = false := decide_eq_false c83
                   clear c83
                   exact absurd H (by simp)
                 ·rw [if_neg c82] at H
                  have c82b0 : (t166 == t184) = false := beq_eq_false_iff_ne.mpr c82
                  have c82b1 : (t166 != t184) = true := bne_iff_ne.mpr c82
                  exact absurd H (by simp)
                ·replace c80 := Bool.eq_false_iff.mpr c80
                 subst c80
                 have H1 : (none) = some r := by rw [if_neg (show ¬ (false = true) by decide)] at H; exact H
                 clear H
                 have H := H1
                 clear H1
                 exact absurd H (by simp)

end Go.Proofs.Ytpicbjcpdngmlaa.G
