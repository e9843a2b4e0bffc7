/- Contracts of the functions of this seat: what each call computes, as a plain Lean function. Made by this session's own generator. -/
import Derived.Test.YtpicbjcpdngmlaaGx0
import Derived.Test.YtpicbjcpdngmlaaGx5
import Derived.Test.YtpicbjcpdngmlaaGx6
import Derived.Test.YtpicbjcpdngmlaaGx7
namespace Go.Proofs.Ytpicbjcpdngmlaa.G
open Go.RowKit Go.Proofs.YtpicbjcpdngmlaaMy Go.Proofs.YtpicbjcpdngmlaaW.PrintWords Go.Proofs.YtpicbjcpdngmlaaW.PrintLast Go.Proofs.YtpicbjcpdngmlaaW.PrintMore
attribute [local go_sem] max2_int min2_int max_two min_two max_three min_three max_four min_four   -- for this text's walks alone
set_option linter.unusedVariables false
set_option linter.unusedSimpArgs false



mutual
def compositorlaw20_RiverMoves.j0 : Nat → Int → Bool → Bool → Int → Int → Int → Int → List (S33) → Int → Int → Int → Int → List (S33) → Option (Bool)
 | 0, _, _, _, _, _, _, _, _, _, _, _, _, _ => none
 | k + 1, x2, x7, x24, x214000, x214001, x214002, x214003, x214004, x215000, x215001, x215002, x215003, x215004 => if x24 = true then (some x7) else (if x214002 > 1099511627776 then (compositorlaw20_RiverMoves.j1 k x2 x7 true x214000 x214001 x214002 x214003 x214004 x215000 x215001 x215002 x215003 x215004 0 0 (wrap64 (x214002 + (wrap64 (x2)))) 0 0 0 (wrap64 (x215002 + (wrap64 (x2)))) 0) else (if x214002 < (-1099511627776) then (compositorlaw20_RiverMoves.j1 k x2 x7 true x214000 x214001 x214002 x214003 x214004 x215000 x215001 x215002 x215003 x215004 0 0 (wrap64 (x214002 + (wrap64 (x2)))) 0 0 0 (wrap64 (x215002 + (wrap64 (x2)))) 0) else (if x215002 > 1099511627776 then (compositorlaw20_RiverMoves.j1 k x2 x7 true x214000 x214001 x214002 x214003 x214004 x215000 x215001 x215002 x215003 x215004 0 0 (wrap64 (x214002 + (wrap64 (x2)))) 0 0 0 (wrap64 (x215002 + (wrap64 (x2)))) 0) else (compositorlaw20_RiverMoves.j1 k x2 x7 (decide (x215002 < (-1099511627776))) x214000 x214001 x214002 x214003 x214004 x215000 x215001 x215002 x215003 x215004 0 0 (wrap64 (x214002 + (wrap64 (x2)))) 0 0 0 (wrap64 (x215002 + (wrap64 (x2)))) 0))))
def compositorlaw20_RiverMoves.j1 : Nat → Int → Bool → Bool → Int → Int → Int → Int → List (S33) → Int → Int → Int → Int → List (S33) → Int → Int → Int → Int → Int → Int → Int → Int → Option (Bool)
 | 0, _, _, _, _, _, _, _, _, _, _, _, _, _, _, _, _, _, _, _, _, _ => none
 | k + 1, x2, x7, x10, x214000, x214001, x214002, x214003, x214004, x215000, x215001, x215002, x215003, x215004, x219000, x219001, x219002, x219003, x220000, x220001, x220002, x220003 => compositorlaw20_RiverMoves.l0 k x2 x7 x10 0 x214000 x214001 x214002 x214003 x214004 x215000 x215001 x215002 x215003 x215004 x219000 x219001 x219002 x219003 ([] : List (S33)) x220000 x220001 x220002 x220003
def compositorlaw20_RiverMoves.l0 : Nat → Int → Bool → Bool → Int → Int → Int → Int → Int → List (S33) → Int → Int → Int → Int → List (S33) → Int → Int → Int → Int → List (S33) → Int → Int → Int → Int → Option (Bool)
 | 0, _, _, _, _, _, _, _, _, _, _, _, _, _, _, _, _, _, _, _, _, _, _, _ => none
 | k + 1, x2, x7, x10, x11, x214000, x214001, x214002, x214003, x214004, x215000, x215001, x215002, x215003, x215004, x219000, x219001, x219002, x219003, x219004, x220000, x220001, x220002, x220003 => if x11 < (x214004.length : Int) then (if x10 = true then (if 0 ≤ x11 then (if x219004.length < 8796093022208 then (compositorlaw20_RiverMoves.l0 k x2 x7 true (wrap64 (x11 + 1)) x214000 x214001 x214002 x214003 x214004 x215000 x215001 x215002 x215003 x215004 x219000 x219001 x219002 x219003 (x219004 ++ [(⟨(rd_T33 x214004 x11).f0, wrap64 (((rd_T33 x214004 x11).f1) + (wrap64 (x2)))⟩ : S33)]) x220000 x220001 x220002 x220003) else (none)) else (none)) else (if 0 ≤ x11 then (if ((rd_T33 x214004 x11).f1) > 1099511627776 then (if x219004.length < 8796093022208 then (compositorlaw20_RiverMoves.l0 k x2 x7 true (wrap64 (x11 + 1)) x214000 x214001 x214002 x214003 x214004 x215000 x215001 x215002 x215003 x215004 x219000 x219001 x219002 x219003 (x219004 ++ [(⟨(rd_T33 x214004 x11).f0, wrap64 (((rd_T33 x214004 x11).f1) + (wrap64 (x2)))⟩ : S33)]) x220000 x220001 x220002 x220003) else (none)) else (if x219004.length < 8796093022208 then (compositorlaw20_RiverMoves.l0 k x2 x7 (decide (((rd_T33 x214004 x11).f1) < (-1099511627776))) (wrap64 (x11 + 1)) x214000 x214001 x214002 x214003 x214004 x215000 x215001 x215002 x215003 x215004 x219000 x219001 x219002 x219003 (x219004 ++ [(⟨(rd_T33 x214004 x11).f0, wrap64 (((rd_T33 x214004 x11).f1) + (wrap64 (x2)))⟩ : S33)]) x220000 x220001 x220002 x220003) else (none))) else (none))) else (compositorlaw20_RiverMoves.l1 k x2 x7 x10 0 x214000 x214001 x214002 x214003 x214004 x215000 x215001 x215002 x215003 x215004 x219000 x219001 x219002 x219003 x219004 x220000 x220001 x220002 x220003 ([] : List (S33)))
def compositorlaw20_RiverMoves.l1 : Nat → Int → Bool → Bool → Int → Int → Int → Int → Int → List (S33) → Int → Int → Int → Int → List (S33) → Int → Int → Int → Int → List (S33) → Int → Int → Int → Int → List (S33) → Option (Bool)
 | 0, _, _, _, _, _, _, _, _, _, _, _, _, _, _, _, _, _, _, _, _, _, _, _, _ => none
 | k + 1, x2, x7, x10, x12, x214000, x214001, x214002, x214003, x214004, x215000, x215001, x215002, x215003, x215004, x219000, x219001, x219002, x219003, x219004, x220000, x220001, x220002, x220003, x220004 => if x12 < (x215004.length : Int) then (if x10 = true then (if 0 ≤ x12 then (if x220004.length < 8796093022208 then (compositorlaw20_RiverMoves.l1 k x2 x7 true (wrap64 (x12 + 1)) x214000 x214001 x214002 x214003 x214004 x215000 x215001 x215002 x215003 x215004 x219000 x219001 x219002 x219003 x219004 x220000 x220001 x220002 x220003 (x220004 ++ [(⟨(rd_T33 x215004 x12).f0, wrap64 (((rd_T33 x215004 x12).f1) + (wrap64 (x2)))⟩ : S33)])) else (none)) else (none)) else (if 0 ≤ x12 then (if ((rd_T33 x215004 x12).f1) > 1099511627776 then (if x220004.length < 8796093022208 then (compositorlaw20_RiverMoves.l1 k x2 x7 true (wrap64 (x12 + 1)) x214000 x214001 x214002 x214003 x214004 x215000 x215001 x215002 x215003 x215004 x219000 x219001 x219002 x219003 x219004 x220000 x220001 x220002 x220003 (x220004 ++ [(⟨(rd_T33 x215004 x12).f0, wrap64 (((rd_T33 x215004 x12).f1) + (wrap64 (x2)))⟩ : S33)])) else (none)) else (if x220004.length < 8796093022208 then (compositorlaw20_RiverMoves.l1 k x2 x7 (decide (((rd_T33 x215004 x12).f1) < (-1099511627776))) (wrap64 (x12 + 1)) x214000 x214001 x214002 x214003 x214004 x215000 x215001 x215002 x215003 x215004 x219000 x219001 x219002 x219003 x219004 x220000 x220001 x220002 x220003 (x220004 ++ [(⟨(rd_T33 x215004 x12).f0, wrap64 (((rd_T33 x215004 x12).f1) + (wrap64 (x2)))⟩ : S33)])) else (none))) else (none))) else (if x10 = true then (some x7) else ((river_Gaps.f k x214000 x214001 x214002 x214003 x214004).bind fun t254 => ((river_Gaps.f k x219000 x219001 x219002 x219003 x219004).bind fun t257 => (if (t254.length : Int) = (t257.length : Int) then (compositorlaw20_RiverMoves.l2 k x2 x7 t254 t257 0 x214000 x214001 x214002 x214003 x214004 x215000 x215001 x215002 x215003 x215004 x219000 x219001 x219002 x219003 x219004 x220000 x220001 x220002 x220003 x220004) else (none)))))
def compositorlaw20_RiverMoves.l2 : Nat → Int → Bool → List (S36) → List (S36) → Int → Int → Int → Int → Int → List (S33) → Int → Int → Int → Int → List (S33) → Int → Int → Int → Int → List (S33) → Int → Int → Int → Int → List (S33) → Option (Bool)
 | 0, _, _, _, _, _, _, _, _, _, _, _, _, _, _, _, _, _, _, _, _, _, _, _, _, _ => none
 | k + 1, x2, x7, x13, x14, x15, x214000, x214001, x214002, x214003, x214004, x215000, x215001, x215002, x215003, x215004, x219000, x219001, x219002, x219003, x219004, x220000, x220001, x220002, x220003, x220004 => if x15 < (x13.length : Int) then (if 0 ≤ x15 then (if x15 < (x14.length : Int) then (if (wrap64 (((rd_T36 x13 x15).f0) + (wrap64 (x2)))) = ((rd_T36 x14 x15).f0) then (if (wrap64 (((rd_T36 x13 x15).f1) + (wrap64 (x2)))) = ((rd_T36 x14 x15).f1) then (compositorlaw20_RiverMoves.l2 k x2 x7 x13 x14 (wrap64 (x15 + 1)) x214000 x214001 x214002 x214003 x214004 x215000 x215001 x215002 x215003 x215004 x219000 x219001 x219002 x219003 x219004 x220000 x220001 x220002 x220003 x220004) else (none)) else (none)) else (none)) else (none)) else (if x7 = true then ((river_Count.f x214000 x214001 x214002 x214003 x214004 x215000 x215001 x215002 x215003 x215004).bind fun t264 => ((river_Count.f x219000 x219001 x219002 x219003 x219004 x220000 x220001 x220002 x220003 x220004).bind fun t265 => (some (t264 == t265)))) else (none))
end
def compositorlaw20_RiverMoves.f (k : Nat) (a0_0 : Int) (a0_1 : Int) (a0_2 : Int) (a0_3 : Int) (l0_4 : List (S33)) (a1_0 : Int) (a1_1 : Int) (a1_2 : Int) (a1_3 : Int) (l1_4 : List (S33)) (a2 : Int) : Option (Bool) := (compositorlaw20_awake.f k).bind fun t215 => ((compositorlaw20_few.f a0_0 a0_1 a0_2 a0_3 l0_4).bind fun t216 => (if t216 = true then ((compositorlaw20_few.f a1_0 a1_1 a1_2 a1_3 l1_4).bind fun t217 => (compositorlaw20_RiverMoves.j0 k a2 t215 (!t217) a0_0 a0_1 a0_2 a0_3 l0_4 a1_0 a1_1 a1_2 a1_3 l1_4)) else (compositorlaw20_RiverMoves.j0 k a2 t215 true a0_0 a0_1 a0_2 a0_3 l0_4 a1_0 a1_1 a1_2 a1_3 l1_4)))
theorem compositorlaw20_RiverMoves.mono_l : ∀ k, (∀ y0 y1 y2 y3 y4 y5 y6 y7 y8 y9 y10 y11 y12, LeO (compositorlaw20_RiverMoves.j0 k y0 y1 y2 y3 y4 y5 y6 y7 y8 y9 y10 y11 y12) (compositorlaw20_RiverMoves.j0 (k + 1) y0 y1 y2 y3 y4 y5 y6 y7 y8 y9 y10 y11 y12)) ∧ (∀ y0 y1 y2 y3 y4 y5 y6 y7 y8 y9 y10 y11 y12 y13 y14 y15 y16 y17 y18 y19 y20, LeO (compositorlaw20_RiverMoves.j1 k y0 y1 y2 y3 y4 y5 y6 y7 y8 y9 y10 y11 y12 y13 y14 y15 y16 y17 y18 y19 y20) (compositorlaw20_RiverMoves.j1 (k + 1) y0 y1 y2 y3 y4 y5 y6 y7 y8 y9 y10 y11 y12 y13 y14 y15 y16 y17 y18 y19 y20)) ∧ (∀ y0 y1 y2 y3 y4 y5 y6 y7 y8 y9 y10 y11 y12 y13 y14 y15 y16 y17 y18 y19 y20 y21 y22, LeO (compositorlaw20_RiverMoves.l0 k y0 y1 y2 y3 y4 y5 y6 y7 y8 y9 y10 y11 y12 y13 y14 y15 y16 y17 y18 y19 y20 y21 y22) (compositorlaw20_RiverMoves.l0 (k + 1) y0 y1 y2 y3 y4 y5 y6 y7 y8 y9 y10 y11 y12 y13 y14 y15 y16 y17 y18 y19 y20 y21 y22)) ∧ (∀ y0 y1 y2 y3 y4 y5 y6 y7 y8 y9 y10 y11 y12 y13 y14 y15 y16 y17 y18 y19 y20 y21 y22 y23, LeO (compositorlaw20_RiverMoves.l1 k y0 y1 y2 y3 y4 y5 y6 y7 y8 y9 y10 y11 y12 y13 y14 y15 y16 y17 y18 y19 y20 y21 y22 y23) (compositorlaw20_RiverMoves.l1 (k + 1) y0 y1 y2 y3 y4 y5 y6 y7 y8 y9 y10 y11 y12 y13 y14 y15 y16 y17 y18 y19 y20 y21 y22 y23)) ∧ (∀ y0 y1 y2 y3 y4 y5 y6 y7 y8 y9 y10 y11 y12 y13 y14 y15 y16 y17 y18 y19 y20 y21 y22 y23 y24, LeO (compositorlaw20_RiverMoves.l2 k y0 y1 y2 y3 y4 y5 y6 y7 y8 y9 y10 y11 y12 y13 y14 y15 y16 y17 y18 y19 y20 y21 y22 y23 y24) (compositorlaw20_RiverMoves.l2 (k + 1) y0 y1 y2 y3 y4 y5 y6 y7 y8 y9 y10 y11 y12 y13 y14 y15 y16 y17 y18 y19 y20 y21 y22 y23 y24))
 | 0 => ⟨fun _ _ _ _ _ _ _ _ _ _ _ _ _ r h => by simp [compositorlaw20_RiverMoves.j0] at h, fun _ _ _ _ _ _ _ _ _ _ _ _ _ _ _ _ _ _ _ _ _ r h => by simp [compositorlaw20_RiverMoves.j1] at h, fun _ _ _ _ _ _ _ _ _ _ _ _ _ _ _ _ _ _ _ _ _ _ _ r h => by simp [compositorlaw20_RiverMoves.l0] at h, fun _ _ _ _ _ _ _ _ _ _ _ _ _ _ _ _ _ _ _ _ _ _ _ _ r h => by simp [compositorlaw20_RiverMoves.l1] at h, fun _ _ _ _ _ _ _ _ _ _ _ _ _ _ _ _ _ _ _ _ _ _ _ _ _ r h => by simp [compositorlaw20_RiverMoves.l2] at h⟩
 | k + 1 => by
  obtain ⟨ih0, ih1, ih2, ih3, ih4⟩ := compositorlaw20_RiverMoves.mono_l k
  refine ⟨?_, ?_, ?_, ?_, ?_⟩
  ·intro y0 y1 y2 y3 y4 y5 y6 y7 y8 y9 y10 y11 y12
   unfold compositorlaw20_RiverMoves.j0
   repeat' first
   | (with_reducible exact ih0 _ _ _ _ _ _ _ _ _ _ _ _ _)
   | (with_reducible exact ih1 _ _ _ _ _ _ _ _ _ _ _ _ _ _ _ _ _ _ _ _ _)
   | (with_reducible exact ih2 _ _ _ _ _ _ _ _ _ _ _ _ _ _ _ _ _ _ _ _ _ _ _)
   | (with_reducible exact ih3 _ _ _ _ _ _ _ _ _ _ _ _ _ _ _ _ _ _ _ _ _ _ _ _)
   | (with_reducible exact ih4 _ _ _ _ _ _ _ _ _ _ _ _ _ _ _ _ _ _ _ _ _ _ _ _ _)
   | (with_reducible exact compositorlaw20_awake.mono _)
   | (with_reducible exact river_Gaps.mono _ _ _ _ _ _)
   | (with_reducible exact LeO.refl _)
   | (with_reducible exact LeO.none _)
   | (with_reducible refine LeO.ite ?_ ?_)
   | (with_reducible refine LeO.bind ?_ (fun _ => ?_))
   | exact ih0 _ _ _ _ _ _ _ _ _ _ _ _ _
   | exact ih1 _ _ _ _ _ _ _ _ _ _ _ _ _ _ _ _ _ _ _ _ _
   | exact ih2 _ _ _ _ _ _ _ _ _ _ _ _ _ _ _ _ _ _ _ _ _ _ _
   | exact ih3 _ _ _ _ _ _ _ _ _ _ _ _ _ _ _ _ _ _ _ _ _ _ _ _
   | exact ih4 _ _ _ _ _ _ _ _ _ _ _ _ _ _ _ _ _ _ _ _ _ _ _ _ _
   | exact compositorlaw20_awake.mono _
   | exact river_Gaps.mono _ _ _ _ _ _
   | exact LeO.none _
   | refine LeO.ite ?_ ?_
   | refine LeO.bind ?_ (fun _ => ?_)
  ·intro y0 y1 y2 y3 y4 y5 y6 y7 y8 y9 y10 y11 y12 y13 y14 y15 y16 y17 y18 y19 y20
   unfold compositorlaw20_RiverMoves.j1
   repeat' first
   | (with_reducible exact ih0 _ _ _ _ _ _ _ _ _ _ _ _ _)
   | (with_reducible exact ih1 _ _ _ _ _ _ _ _ _ _ _ _ _ _ _ _ _ _ _ _ _)
   | (with_reducible exact ih2 _ _ _ _ _ _ _ _ _ _ _ _ _ _ _ _ _ _ _ _ _ _ _)
   | (with_reducible exact ih3 _ _ _ _ _ _ _ _ _ _ _ _ _ _ _ _ _ _ _ _ _ _ _ _)
   | (with_reducible exact ih4 _ _ _ _ _ _ _ _ _ _ _ _ _ _ _ _ _ _ _ _ _ _ _ _ _)
   | (with_reducible exact compositorlaw20_awake.mono _)
   | (with_reducible exact river_Gaps.mono _ _ _ _ _ _)
   | (with_reducible exact LeO.refl _)
   | (with_reducible exact LeO.none _)
   | (with_reducible refine LeO.ite ?_ ?_)
   | (with_reducible refine LeO.bind ?_ (fun _ => ?_))
   | exact ih0 _ _ _ _ _ _ _ _ _ _ _ _ _
   | exact ih1 _ _ _ _ _ _ _ _ _ _ _ _ _ _ _ _ _ _ _ _ _
   | exact ih2 _ _ _ _ _ _ _ _ _ _ _ _ _ _ _ _ _ _ _ _ _ _ _
   | exact ih3 _ _ _ _ _ _ _ _ _ _ _ _ _ _ _ _ _ _ _ _ _ _ _ _
   | exact ih4 _ _ _ _ _ _ _ _ _ _ _ _ _ _ _ _ _ _ _ _ _ _ _ _ _
   | exact compositorlaw20_awake.mono _
   | exact river_Gaps.mono _ _ _ _ _ _
   | exact LeO.none _
   | refine LeO.ite ?_ ?_
   | refine LeO.bind ?_ (fun _ => ?_)
  ·intro y0 y1 y2 y3 y4 y5 y6 y7 y8 y9 y10 y11 y12 y13 y14 y15 y16 y17 y18 y19 y20 y21 y22
   unfold compositorlaw20_RiverMoves.l0
   repeat' first
   | (with_reducible exact ih0 _ _ _ _ _ _ _ _ _ _ _ _ _)
   | (with_reducible exact ih1 _ _ _ _ _ _ _ _ _ _ _ _ _ _ _ _ _ _ _ _ _)
   | (with_reducible exact ih2 _ _ _ _ _ _ _ _ _ _ _ _ _ _ _ _ _ _ _ _ _ _ _)
   | (with_reducible exact ih3 _ _ _ _ _ _ _ _ _ _ _ _ _ _ _ _ _ _ _ _ _ _ _ _)
   | (with_reducible exact ih4 _ _ _ _ _ _ _ _ _ _ _ _ _ _ _ _ _ _ _ _ _ _ _ _ _)
   | (with_reducible exact compositorlaw20_awake.mono _)
   | (with_reducible exact river_Gaps.mono _ _ _ _ _ _)
   | (with_reducible exact LeO.refl _)
   | (with_reducible exact LeO.none _)
   | (with_reducible refine LeO.ite ?_ ?_)
   | (with_reducible refine LeO.bind ?_ (fun _ => ?_))
   | exact ih0 _ _ _ _ _ _ _ _ _ _ _ _ _
   | exact ih1 _ _ _ _ _ _ _ _ _ _ _ _ _ _ _ _ _ _ _ _ _
   | exact ih2 _ _ _ _ _ _ _ _ _ _ _ _ _ _ _ _ _ _ _ _ _ _ _
   | exact ih3 _ _ _ _ _ _ _ _ _ _ _ _ _ _ _ _ _ _ _ _ _ _ _ _
   | exact ih4 _ _ _ _ _ _ _ _ _ _ _ _ _ _ _ _ _ _ _ _ _ _ _ _ _
   | exact compositorlaw20_awake.mono _
   | exact river_Gaps.mono _ _ _ _ _ _
   | exact LeO.none _
   | refine LeO.ite ?_ ?_
   | refine LeO.bind ?_ (fun _ => ?_)
  ·intro y0 y1 y2 y3 y4 y5 y6 y7 y8 y9 y10 y11 y12 y13 y14 y15 y16 y17 y18 y19 y20 y21 y22 y23
   unfold compositorlaw20_RiverMoves.l1
   repeat' first
   | (with_reducible exact ih0 _ _ _ _ _ _ _ _ _ _ _ _ _)
   | (with_reducible exact ih1 _ _ _ _ _ _ _ _ _ _ _ _ _ _ _ _ _ _ _ _ _)
   | (with_reducible exact ih2 _ _ _ _ _ _ _ _ _ _ _ _ _ _ _ _ _ _ _ _ _ _ _)
   | (with_reducible exact ih3 _ _ _ _ _ _ _ _ _ _ _ _ _ _ _ _ _ _ _ _ _ _ _ _)
   | (with_reducible exact ih4 _ _ _ _ _ _ _ _ _ _ _ _ _ _ _ _ _ _ _ _ _ _ _ _ _)
   | (with_reducible exact compositorlaw20_awake.mono _)
   | (with_reducible exact river_Gaps.mono _ _ _ _ _ _)
   | (with_reducible exact LeO.refl _)
   | (with_reducible exact LeO.none _)
   | (with_reducible refine LeO.ite ?_ ?_)
   | (with_reducible refine LeO.bind ?_ (fun _ => ?_))
   | exact ih0 _ _ _ _ _ _ _ _ _ _ _ _ _
   | exact ih1 _ _ _ _ _ _ _ _ _ _ _ _ _ _ _ _ _ _ _ _ _
   | exact ih2 _ _ _ _ _ _ _ _ _ _ _ _ _ _ _ _ _ _ _ _ _ _ _
   | exact ih3 _ _ _ _ _ _ _ _ _ _ _ _ _ _ _ _ _ _ _ _ _ _ _ _
   | exact ih4 _ _ _ _ _ _ _ _ _ _ _ _ _ _ _ _ _ _ _ _ _ _ _ _ _
   | exact compositorlaw20_awake.mono _
   | exact river_Gaps.mono _ _ _ _ _ _
   | exact LeO.none _
   | refine LeO.ite ?_ ?_
   | refine LeO.bind ?_ (fun _ => ?_)
  ·intro y0 y1 y2 y3 y4 y5 y6 y7 y8 y9 y10 y11 y12 y13 y14 y15 y16 y17 y18 y19 y20 y21 y22 y23 y24
   unfold compositorlaw20_RiverMoves.l2
   repeat' first
   | (with_reducible exact ih0 _ _ _ _ _ _ _ _ _ _ _ _ _)
   | (with_reducible exact ih1 _ _ _ _ _ _ _ _ _ _ _ _ _ _ _ _ _ _ _ _ _)
   | (with_reducible exact ih2 _ _ _ _ _ _ _ _ _ _ _ _ _ _ _ _ _ _ _ _ _ _ _)
   | (with_reducible exact ih3 _ _ _ _ _ _ _ _ _ _ _ _ _ _ _ _ _ _ _ _ _ _ _ _)
   | (with_reducible exact ih4 _ _ _ _ _ _ _ _ _ _ _ _ _ _ _ _ _ _ _ _ _ _ _ _ _)
   | (with_reducible exact compositorlaw20_awake.mono _)
   | (with_reducible exact river_Gaps.mono _ _ _ _ _ _)
   | (with_reducible exact LeO.refl _)
   | (with_reducible exact LeO.none _)
   | (with_reducible refine LeO.ite ?_ ?_)
   | (with_reducible refine LeO.bind ?_ (fun _ => ?_))
   | exact ih0 _ _ _ _ _ _ _ _ _ _ _ _ _
   | exact ih1 _ _ _ _ _ _ _ _ _ _ _ _ _ _ _ _ _ _ _ _ _
   | exact ih2 _ _ _ _ _ _ _ _ _ _ _ _ _ _ _ _ _ _ _ _ _ _ _
   | exact ih3 _ _ _ _ _ _ _ _ _ _ _ _ _ _ _ _ _ _ _ _ _ _ _ _
   | exact ih4 _ _ _ _ _ _ _ _ _ _ _ _ _ _ _ _ _ _ _ _ _ _ _ _ _
   | exact compositorlaw20_awake.mono _
   | exact river_Gaps.mono _ _ _ _ _ _
   | exact LeO.none _
   | refine LeO.ite ?_ ?_
   | refine LeO.bind ?_ (fun _ => ?_)
theorem compositorlaw20_RiverMoves.mono : ∀ a0 a1 a2 a3 a4 a5 a6 a7 a8 a9 a10 k, LeO (compositorlaw20_RiverMoves.f k a0 a1 a2 a3 a4 a5 a6 a7 a8 a9 a10) (compositorlaw20_RiverMoves.f (k + 1) a0 a1 a2 a3 a4 a5 a6 a7 a8 a9 a10) := by
 intro a0 a1 a2 a3 a4 a5 a6 a7 a8 a9 a10 k
 obtain ⟨ih0, ih1, ih2, ih3, ih4⟩ := compositorlaw20_RiverMoves.mono_l k
 unfold compositorlaw20_RiverMoves.f
 repeat' first
   | (with_reducible exact ih0 _ _ _ _ _ _ _ _ _ _ _ _ _)
   | (with_reducible exact ih1 _ _ _ _ _ _ _ _ _ _ _ _ _ _ _ _ _ _ _ _ _)
   | (with_reducible exact ih2 _ _ _ _ _ _ _ _ _ _ _ _ _ _ _ _ _ _ _ _ _ _ _)
   | (with_reducible exact ih3 _ _ _ _ _ _ _ _ _ _ _ _ _ _ _ _ _ _ _ _ _ _ _ _)
   | (with_reducible exact ih4 _ _ _ _ _ _ _ _ _ _ _ _ _ _ _ _ _ _ _ _ _ _ _ _ _)
   | (with_reducible exact compositorlaw20_awake.mono _)
   | (with_reducible exact river_Gaps.mono _ _ _ _ _ _)
   | (with_reducible exact LeO.refl _)
   | (with_reducible exact LeO.none _)
   | (with_reducible refine LeO.ite ?_ ?_)
   | (with_reducible refine LeO.bind ?_ (fun _ => ?_))
   | exact ih0 _ _ _ _ _ _ _ _ _ _ _ _ _
   | exact ih1 _ _ _ _ _ _ _ _ _ _ _ _ _ _ _ _ _ _ _ _ _
   | exact ih2 _ _ _ _ _ _ _ _ _ _ _ _ _ _ _ _ _ _ _ _ _ _ _
   | exact ih3 _ _ _ _ _ _ _ _ _ _ _ _ _ _ _ _ _ _ _ _ _ _ _ _
   | exact ih4 _ _ _ _ _ _ _ _ _ _ _ _ _ _ _ _ _ _ _ _ _ _ _ _ _
   | exact compositorlaw20_awake.mono _
   | exact river_Gaps.mono _ _ _ _ _ _
   | exact LeO.none _
   | refine LeO.ite ?_ ?_
   | refine LeO.bind ?_ (fun _ => ?_)
def compositorlaw20_RiverMoves.T11 : Bool × List (List Nat × List Nat) := (true, [([], []), ([0], [0]), ([], []), ([2], [2]), ([], []), ([3, 4], [3, 4]), ([5], [5]), ([6], [6]), ([], []), ([8], [8]), ([], []), ([9, 10], [9, 10]), ([11], [11]), ([12], [12]), ([], []), ([14], [14]), ([13, 15], [13, 15]), ([7, 16], [7, 16]), ([17], [17]), ([1, 18], [1, 18]), ([0, 1, 2, 3, 4, 5, 6, 7, 8, 9, 10, 11, 12, 13, 14, 15, 16, 17, 18, 19], []), ([20, 19, 19, 0, 1, 2, 3, 4, 5, 6, 7, 8, 9, 10, 11, 12, 13, 14, 15, 16, 17, 18, 19], [19, 20])])
def compositorlaw20_RiverMoves.B11 : List Nat := [0, 1, 0, 4, 0, 28, 60, 124, 0, 256, 0, 1792, 3840, 7936, 0, 16384, 65280, 131068, 262140, 524287, 1048575, 2097151]
theorem compositorlaw20_RiverMoves.tab11 : rtab .any (opsOf Try.f6 11) = compositorlaw20_RiverMoves.T11 := by kernel_rfl
theorem compositorlaw20_RiverMoves.bits11 : waitsOk compositorlaw20_RiverMoves.T11.2 compositorlaw20_RiverMoves.B11 = true := by kernel_rfl
def compositorlaw20_RiverMoves.T16 : Bool × List (List Nat × List Nat) := (true, [([], []), ([0], [0]), ([], []), ([2], [2]), ([], []), ([3, 4], [3, 4]), ([5], [5]), ([6], [6]), ([], []), ([8], [8]), ([], []), ([9, 10], [9, 10]), ([11], [11]), ([12], [12]), ([], []), ([14], [14]), ([13, 15], [13, 15]), ([7, 16], [7, 16]), ([17], [17]), ([1, 18], [1, 18]), ([0, 1, 2, 3, 4, 5, 6, 7, 8, 9, 10, 11, 12, 13, 14, 15, 16, 17, 18, 19], []), ([20, 19, 19, 0, 1, 2, 3, 4, 5, 6, 7, 8, 9, 10, 11, 12, 13, 14, 15, 16, 17, 18, 19], [19, 20])])
def compositorlaw20_RiverMoves.B16 : List Nat := [0, 1, 0, 4, 0, 28, 60, 124, 0, 256, 0, 1792, 3840, 7936, 0, 16384, 65280, 131068, 262140, 524287, 1048575, 2097151]
theorem compositorlaw20_RiverMoves.tab16 : rtab .any (opsOf Try.f6 16) = compositorlaw20_RiverMoves.T16 := by kernel_rfl
theorem compositorlaw20_RiverMoves.bits16 : waitsOk compositorlaw20_RiverMoves.T16.2 compositorlaw20_RiverMoves.B16 = true := by kernel_rfl
def compositorlaw20_RiverMoves.T26 : Bool × List (List Nat × List Nat) := (true, [([], []), ([], []), ([0, 1], [0, 1]), ([2], [2]), ([3], [3]), ([], []), ([5], [5]), ([4, 6], [4, 6]), ([], []), ([], []), ([8, 9], [8, 9]), ([10], [10]), ([11], [11]), ([7, 12], [7, 12]), ([13], [13]), ([14], [14]), ([14], [14]), ([15, 16, 14], [14, 15, 16]), ([17, 14], [14, 17]), ([18, 14], [14, 18]), ([14], [14]), ([20, 14], [14, 20]), ([19, 21, 14], [14, 19, 21]), ([14], [14]), ([14], [14]), ([23, 24, 14], [14, 23, 24]), ([25, 14], [14, 25]), ([26, 14], [14, 26]), ([22, 27, 14], [14, 22, 27]), ([14, 28], [14, 28])])
def compositorlaw20_RiverMoves.B26 : List Nat := [0, 0, 3, 7, 15, 0, 32, 127, 0, 0, 768, 1792, 3840, 8191, 16383, 32767, 32767, 131071, 262143, 524287, 32767, 1081343, 4194303, 32767, 32767, 25198591, 58753023, 125861887, 268435455, 536870911]
theorem compositorlaw20_RiverMoves.tab26 : rtab .any (opsOf Try.f6 26) = compositorlaw20_RiverMoves.T26 := by kernel_rfl
theorem compositorlaw20_RiverMoves.bits26 : waitsOk compositorlaw20_RiverMoves.T26.2 compositorlaw20_RiverMoves.B26 = true := by kernel_rfl
def compositorlaw20_RiverMoves.T28 : Bool × List (List Nat × List Nat) := (true, [([], []), ([0], [0]), ([1], [1]), ([1], [1]), ([2, 3, 1, 1], [1, 2, 3]), ([1], [1]), ([1], [1]), ([5, 6, 4, 1], [1, 5, 6]), ([4, 7, 1], [1, 4, 7]), ([1, 8], [1, 8]), ([9, 7, 0, 1, 2, 3, 4, 5, 6, 7, 8, 9], [9])])
def compositorlaw20_RiverMoves.B28 : List Nat := [0, 1, 3, 3, 15, 3, 3, 127, 255, 511, 1023]
theorem compositorlaw20_RiverMoves.tab28 : rtab .any (opsOf Try.f6 28) = compositorlaw20_RiverMoves.T28 := by kernel_rfl
theorem compositorlaw20_RiverMoves.bits28 : waitsOk compositorlaw20_RiverMoves.T28.2 compositorlaw20_RiverMoves.B28 = true := by kernel_rfl

end Go.Proofs.Ytpicbjcpdngmlaa.G
