/- Contracts of the functions of this seat: what each call computes, as a plain Lean function. Made by this session's own generator. -/
import Derived.Test.YtejpnfaaboicdaaGx0
import Derived.Test.YtejpnfaaboicdaaGx5
import Derived.Test.YtejpnfaaboicdaaGx6
import Derived.Test.YtejpnfaaboicdaaGx7
namespace Go.Proofs.Ytejpnfaaboicdaa.G
open Go.RowKit Go.Proofs.YtejpnfaaboicdaaMy Go.Proofs.YtejpnfaaboicdaaW.PrintWords Go.Proofs.YtejpnfaaboicdaaW.PrintLast Go.Proofs.YtejpnfaaboicdaaW.PrintMore
attribute [local go_sem] max2_int min2_int max_two min_two max_three min_three max_four min_four   -- for this text's walks alone
set_option linter.unusedVariables false
set_option linter.unusedSimpArgs false

/-! ### compositorlaw21_DemRuns: function 5 -/
mutual
def compositorlaw21_DemRuns.j0 : Nat → List Int → Int → Int → Bool → Bool → Int → Int → Int → Int → List (S47) → Int → Int → Int → Int → Int → Int → Int → Int → Int → Int → Int → Int → Int → Int → Int → Int → Option (Bool)
 | 0, _, _, _, _, _, _, _, _, _, _, _, _, _, _, _, _, _, _, _, _, _, _, _, _, _, _ => none
 | k + 1, x1, x2, x3, x9, x28, x230000, x230001, x230002, x230003, x230004, x230005, x230006, x230007, x230008, x230009, x230010, x230011, x230012, x230013, x230014, x230015, x230016, x230017, x230018, x230019, x230020 => if x28 = true then (some x9) else ((dem_First.f).bind fun bt231 => (compositorlaw21_DemRuns.l0 k x1 x2 x3 x9 0 0 x230000 x230001 x230002 x230003 x230004 x230005 x230006 x230007 x230008 x230009 x230010 x230011 x230012 x230013 x230014 x230015 x230016 x230017 x230018 x230019 x230020 bt231.1 bt231.2.1 bt231.2.2))
def compositorlaw21_DemRuns.l0 : Nat → List Int → Int → Int → Bool → Int → Int → Int → Int → Int → Int → List (S47) → Int → Int → Int → Int → Int → Int → Int → Int → Int → Int → Int → Int → Int → Int → Int → Int → Int → Int → Int → Option (Bool)
 | 0, _, _, _, _, _, _, _, _, _, _, _, _, _, _, _, _, _, _, _, _, _, _, _, _, _, _, _, _, _, _ => none
 | k + 1, x1, x2, x3, x9, x11, x12, x230000, x230001, x230002, x230003, x230004, x230005, x230006, x230007, x230008, x230009, x230010, x230011, x230012, x230013, x230014, x230015, x230016, x230017, x230018, x230019, x230020, x235000, x235001, x235002 => if x12 < (x1.length : Int) then (if 0 ≤ x12 then ((dem_Next.f x235000 x235001 x235002 (wrap64 (Int.tmod (rd x1 x12) 6)) 1).bind fun bt236 => (if (wrap64 (Int.tmod (rd x1 x12) 6)) = 2 then (compositorlaw21_DemRuns.j2 k x1 x2 x3 x9 x11 x12 true x230000 x230001 x230002 x230003 x230004 x230005 x230006 x230007 x230008 x230009 x230010 x230011 x230012 x230013 x230014 x230015 x230016 x230017 x230018 x230019 x230020 x235000 x235001 x235002 bt236.1 bt236.2.1 bt236.2.2) else (compositorlaw21_DemRuns.j2 k x1 x2 x3 x9 x11 x12 ((wrap64 (Int.tmod (rd x1 x12) 6)) == 3) x230000 x230001 x230002 x230003 x230004 x230005 x230006 x230007 x230008 x230009 x230010 x230011 x230012 x230013 x230014 x230015 x230016 x230017 x230018 x230019 x230020 x235000 x235001 x235002 bt236.1 bt236.2.1 bt236.2.2))) else (none)) else (some x9)
def compositorlaw21_DemRuns.j2 : Nat → List Int → Int → Int → Bool → Int → Int → Bool → Int → Int → Int → Int → List (S47) → Int → Int → Int → Int → Int → Int → Int → Int → Int → Int → Int → Int → Int → Int → Int → Int → Int → Int → Int → Int → Int → Int → Option (Bool)
 | 0, _, _, _, _, _, _, _, _, _, _, _, _, _, _, _, _, _, _, _, _, _, _, _, _, _, _, _, _, _, _, _, _, _, _ => none
 | k + 1, x1, x2, x3, x9, x11, x12, x51, x230000, x230001, x230002, x230003, x230004, x230005, x230006, x230007, x230008, x230009, x230010, x230011, x230012, x230013, x230014, x230015, x230016, x230017, x230018, x230019, x230020, x235000, x235001, x235002, x240000, x240001, x240002 => if x51 = true then (compositorlaw21_DemRuns.j3 k x1 x2 x3 x9 (wrap64 (x11 + 1)) x12 x230000 x230001 x230002 x230003 x230004 x230005 x230006 x230007 x230008 x230009 x230010 x230011 x230012 x230013 x230014 x230015 x230016 x230017 x230018 x230019 x230020 x235000 x235001 x235002 x240000 x240001 x240002) else (compositorlaw21_DemRuns.j3 k x1 x2 x3 x9 0 x12 x230000 x230001 x230002 x230003 x230004 x230005 x230006 x230007 x230008 x230009 x230010 x230011 x230012 x230013 x230014 x230015 x230016 x230017 x230018 x230019 x230020 x235000 x235001 x235002 x240000 x240001 x240002)
def compositorlaw21_DemRuns.j3 : Nat → List Int → Int → Int → Bool → Int → Int → Int → Int → Int → Int → List (S47) → Int → Int → Int → Int → Int → Int → Int → Int → Int → Int → Int → Int → Int → Int → Int → Int → Int → Int → Int → Int → Int → Int → Option (Bool)
 | 0, _, _, _, _, _, _, _, _, _, _, _, _, _, _, _, _, _, _, _, _, _, _, _, _, _, _, _, _, _, _, _, _, _ => none
 | k + 1, x1, x2, x3, x9, x11, x12, x230000, x230001, x230002, x230003, x230004, x230005, x230006, x230007, x230008, x230009, x230010, x230011, x230012, x230013, x230014, x230015, x230016, x230017, x230018, x230019, x230020, x235000, x235001, x235002, x240000, x240001, x240002 => (dem_Pair.f k x230000 x230001 x230002 x230003 x230004 x230005 x230006 x230007 x230008 x230009 x230010 x230011 x230012 x230013 x230014 x230015 x230016 x230017 x230018 x230019 x230020 x235000 x235001 x235002 x240000 x240001 x240002 (wrap64 (x2))).bind fun t240 => ((dem_Pair.f k x230000 x230001 x230002 x230003 x230004 x230005 x230006 x230007 x230008 x230009 x230010 x230011 x230012 x230013 x230014 x230015 x230016 x230017 x230018 x230019 x230020 x235000 x235001 x235002 x240000 x240001 x240002 (wrap64 ((wrap64 (x2)) + (wrap64 (x3))))).bind fun t241 => ((dem_Pair.f k x230000 x230001 x230002 x230003 x230004 x230005 x230006 x230007 x230008 x230009 x230010 x230011 x230012 x230013 x230014 x230015 x230016 x230017 x230018 x230019 x230020 x235000 x235001 x235002 x240000 x240001 (wrap64 (x240002 + 1)) (wrap64 (x2))).bind fun t243 => (if x240002 = (mn x11 4) then (if t240 > t241 then (none) else (if t240 > t243 then (none) else (if t240 < 0 then (none) else (compositorlaw21_DemRuns.l0 k x1 x2 x3 x9 x11 (wrap64 (x12 + 1)) x230000 x230001 x230002 x230003 x230004 x230005 x230006 x230007 x230008 x230009 x230010 x230011 x230012 x230013 x230014 x230015 x230016 x230017 x230018 x230019 x230020 x240000 x240001 x240002)))) else (none))))
end
def compositorlaw21_DemRuns.f (k : Nat) (a0_0 : Int) (a0_1 : Int) (a0_2 : Int) (a0_3 : Int) (l0_4 : List (S47)) (a0_5 : Int) (a0_6 : Int) (a0_7 : Int) (a0_8 : Int) (a0_9 : Int) (a0_10 : Int) (a0_11 : Int) (a0_12 : Int) (a0_13 : Int) (a0_14 : Int) (a0_15 : Int) (a0_16 : Int) (a0_17 : Int) (a0_18 : Int) (a0_19 : Int) (a0_20 : Int) (l1 : List Int) (a2 : Int) (a3 : Int) : Option (Bool) := (compositorlaw21_awake.f k).bind fun t230 => (if (l0_4.length : Int) > 100 then (compositorlaw21_DemRuns.j0 k l1 a2 a3 t230 true a0_0 a0_1 a0_2 a0_3 l0_4 a0_5 a0_6 a0_7 a0_8 a0_9 a0_10 a0_11 a0_12 a0_13 a0_14 a0_15 a0_16 a0_17 a0_18 a0_19 a0_20) else (compositorlaw21_DemRuns.j0 k l1 a2 a3 t230 (decide ((l1.length : Int) > 100)) a0_0 a0_1 a0_2 a0_3 l0_4 a0_5 a0_6 a0_7 a0_8 a0_9 a0_10 a0_11 a0_12 a0_13 a0_14 a0_15 a0_16 a0_17 a0_18 a0_19 a0_20))
theorem compositorlaw21_DemRuns.mono_l : ∀ k, (∀ y0 y1 y2 y3 y4 y5 y6 y7 y8 y9 y10 y11 y12 y13 y14 y15 y16 y17 y18 y19 y20 y21 y22 y23 y24 y25, LeO (compositorlaw21_DemRuns.j0 k y0 y1 y2 y3 y4 y5 y6 y7 y8 y9 y10 y11 y12 y13 y14 y15 y16 y17 y18 y19 y20 y21 y22 y23 y24 y25) (compositorlaw21_DemRuns.j0 (k + 1) y0 y1 y2 y3 y4 y5 y6 y7 y8 y9 y10 y11 y12 y13 y14 y15 y16 y17 y18 y19 y20 y21 y22 y23 y24 y25)) ∧ (∀ y0 y1 y2 y3 y4 y5 y6 y7 y8 y9 y10 y11 y12 y13 y14 y15 y16 y17 y18 y19 y20 y21 y22 y23 y24 y25 y26 y27 y28 y29, LeO (compositorlaw21_DemRuns.l0 k y0 y1 y2 y3 y4 y5 y6 y7 y8 y9 y10 y11 y12 y13 y14 y15 y16 y17 y18 y19 y20 y21 y22 y23 y24 y25 y26 y27 y28 y29) (compositorlaw21_DemRuns.l0 (k + 1) y0 y1 y2 y3 y4 y5 y6 y7 y8 y9 y10 y11 y12 y13 y14 y15 y16 y17 y18 y19 y20 y21 y22 y23 y24 y25 y26 y27 y28 y29)) ∧ (∀ y0 y1 y2 y3 y4 y5 y6 y7 y8 y9 y10 y11 y12 y13 y14 y15 y16 y17 y18 y19 y20 y21 y22 y23 y24 y25 y26 y27 y28 y29 y30 y31 y32 y33, LeO (compositorlaw21_DemRuns.j2 k y0 y1 y2 y3 y4 y5 y6 y7 y8 y9 y10 y11 y12 y13 y14 y15 y16 y17 y18 y19 y20 y21 y22 y23 y24 y25 y26 y27 y28 y29 y30 y31 y32 y33) (compositorlaw21_DemRuns.j2 (k + 1) y0 y1 y2 y3 y4 y5 y6 y7 y8 y9 y10 y11 y12 y13 y14 y15 y16 y17 y18 y19 y20 y21 y22 y23 y24 y25 y26 y27 y28 y29 y30 y31 y32 y33)) ∧ (∀ y0 y1 y2 y3 y4 y5 y6 y7 y8 y9 y10 y11 y12 y13 y14 y15 y16 y17 y18 y19 y20 y21 y22 y23 y24 y25 y26 y27 y28 y29 y30 y31 y32, LeO (compositorlaw21_DemRuns.j3 k y0 y1 y2 y3 y4 y5 y6 y7 y8 y9 y10 y11 y12 y13 y14 y15 y16 y17 y18 y19 y20 y21 y22 y23 y24 y25 y26 y27 y28 y29 y30 y31 y32) (compositorlaw21_DemRuns.j3 (k + 1) y0 y1 y2 y3 y4 y5 y6 y7 y8 y9 y10 y11 y12 y13 y14 y15 y16 y17 y18 y19 y20 y21 y22 y23 y24 y25 y26 y27 y28 y29 y30 y31 y32))
 | 0 => ⟨fun _ _ _ _ _ _ _ _ _ _ _ _ _ _ _ _ _ _ _ _ _ _ _ _ _ _ r h => by simp [compositorlaw21_DemRuns.j0] at h, fun _ _ _ _ _ _ _ _ _ _ _ _ _ _ _ _ _ _ _ _ _ _ _ _ _ _ _ _ _ _ r h => by simp [compositorlaw21_DemRuns.l0] at h, fun _ _ _ _ _ _ _ _ _ _ _ _ _ _ _ _ _ _ _ _ _ _ _ _ _ _ _ _ _ _ _ _ _ _ r h => by simp [compositorlaw21_DemRuns.j2] at h, fun _ _ _ _ _ _ _ _ _ _ _ _ _ _ _ _ _ _ _ _ _ _ _ _ _ _ _ _ _ _ _ _ _ r h => by simp [compositorlaw21_DemRuns.j3] at h⟩
 | k + 1 => by
  obtain ⟨ih0, ih1, ih2, ih3⟩ := compositorlaw21_DemRuns.mono_l k
  refine ⟨?_, ?_, ?_, ?_⟩
  ·intro y0 y1 y2 y3 y4 y5 y6 y7 y8 y9 y10 y11 y12 y13 y14 y15 y16 y17 y18 y19 y20 y21 y22 y23 y24 y25
   unfold compositorlaw21_DemRuns.j0
   repeat' first
   | (with_reducible exact ih0 _ _ _ _ _ _ _ _ _ _ _ _ _ _ _ _ _ _ _ _ _ _ _ _ _ _)
   | (with_reducible exact ih1 _ _ _ _ _ _ _ _ _ _ _ _ _ _ _ _ _ _ _ _ _ _ _ _ _ _ _ _ _ _)
   | (with_reducible exact ih2 _ _ _ _ _ _ _ _ _ _ _ _ _ _ _ _ _ _ _ _ _ _ _ _ _ _ _ _ _ _ _ _ _ _)
   | (with_reducible exact ih3 _ _ _ _ _ _ _ _ _ _ _ _ _ _ _ _ _ _ _ _ _ _ _ _ _ _ _ _ _ _ _ _ _)
   | (with_reducible exact compositorlaw21_awake.mono _)
   | (with_reducible exact dem_Pair.mono _ _ _ _ _ _ _ _ _ _ _ _ _ _ _ _ _ _ _ _ _ _ _ _ _ _ _ _ _)
   | (with_reducible exact LeO.refl _)
   | (with_reducible exact LeO.none _)
   | (with_reducible refine LeO.ite ?_ ?_)
   | (with_reducible refine LeO.bind ?_ (fun _ => ?_))
   | exact ih0 _ _ _ _ _ _ _ _ _ _ _ _ _ _ _ _ _ _ _ _ _ _ _ _ _ _
   | exact ih1 _ _ _ _ _ _ _ _ _ _ _ _ _ _ _ _ _ _ _ _ _ _ _ _ _ _ _ _ _ _
   | exact ih2 _ _ _ _ _ _ _ _ _ _ _ _ _ _ _ _ _ _ _ _ _ _ _ _ _ _ _ _ _ _ _ _ _ _
   | exact ih3 _ _ _ _ _ _ _ _ _ _ _ _ _ _ _ _ _ _ _ _ _ _ _ _ _ _ _ _ _ _ _ _ _
   | exact compositorlaw21_awake.mono _
   | exact dem_Pair.mono _ _ _ _ _ _ _ _ _ _ _ _ _ _ _ _ _ _ _ _ _ _ _ _ _ _ _ _ _
   | exact LeO.none _
   | refine LeO.ite ?_ ?_
   | refine LeO.bind ?_ (fun _ => ?_)
  ·intro y0 y1 y2 y3 y4 y5 y6 y7 y8 y9 y10 y11 y12 y13 y14 y15 y16 y17 y18 y19 y20 y21 y22 y23 y24 y25 y26 y27 y28 y29
   unfold compositorlaw21_DemRuns.l0
   repeat' first
   | (with_reducible exact ih0 _ _ _ _ _ _ _ _ _ _ _ _ _ _ _ _ _ _ _ _ _ _ _ _ _ _)
   | (with_reducible exact ih1 _ _ _ _ _ _ _ _ _ _ _ _ _ _ _ _ _ _ _ _ _ _ _ _ _ _ _ _ _ _)
   | (with_reducible exact ih2 _ _ _ _ _ _ _ _ _ _ _ _ _ _ _ _ _ _ _ _ _ _ _ _ _ _ _ _ _ _ _ _ _ _)
   | (with_reducible exact ih3 _ _ _ _ _ _ _ _ _ _ _ _ _ _ _ _ _ _ _ _ _ _ _ _ _ _ _ _ _ _ _ _ _)
   | (with_reducible exact compositorlaw21_awake.mono _)
   | (with_reducible exact dem_Pair.mono _ _ _ _ _ _ _ _ _ _ _ _ _ _ _ _ _ _ _ _ _ _ _ _ _ _ _ _ _)
   | (with_reducible exact LeO.refl _)
   | (with_reducible exact LeO.none _)
   | (with_reducible refine LeO.ite ?_ ?_)
   | (with_reducible refine LeO.bind ?_ (fun _ => ?_))
   | exact ih0 _ _ _ _ _ _ _ _ _ _ _ _ _ _ _ _ _ _ _ _ _ _ _ _ _ _
   | exact ih1 _ _ _ _ _ _ _ _ _ _ _ _ _ _ _ _ _ _ _ _ _ _ _ _ _ _ _ _ _ _
   | exact ih2 _ _ _ _ _ _ _ _ _ _ _ _ _ _ _ _ _ _ _ _ _ _ _ _ _ _ _ _ _ _ _ _ _ _
   | exact ih3 _ _ _ _ _ _ _ _ _ _ _ _ _ _ _ _ _ _ _ _ _ _ _ _ _ _ _ _ _ _ _ _ _
   | exact compositorlaw21_awake.mono _
   | exact dem_Pair.mono _ _ _ _ _ _ _ _ _ _ _ _ _ _ _ _ _ _ _ _ _ _ _ _ _ _ _ _ _
   | exact LeO.none _
   | refine LeO.ite ?_ ?_
   | refine LeO.bind ?_ (fun _ => ?_)
  ·intro y0 y1 y2 y3 y4 y5 y6 y7 y8 y9 y10 y11 y12 y13 y14 y15 y16 y17 y18 y19 y20 y21 y22 y23 y24 y25 y26 y27 y28 y29 y30 y31 y32 y33
   unfold compositorlaw21_DemRuns.j2
   repeat' first
   | (with_reducible exact ih0 _ _ _ _ _ _ _ _ _ _ _ _ _ _ _ _ _ _ _ _ _ _ _ _ _ _)
   | (with_reducible exact ih1 _ _ _ _ _ _ _ _ _ _ _ _ _ _ _ _ _ _ _ _ _ _ _ _ _ _ _ _ _ _)
   | (with_reducible exact ih2 _ _ _ _ _ _ _ _ _ _ _ _ _ _ _ _ _ _ _ _ _ _ _ _ _ _ _ _ _ _ _ _ _ _)
   | (with_reducible exact ih3 _ _ _ _ _ _ _ _ _ _ _ _ _ _ _ _ _ _ _ _ _ _ _ _ _ _ _ _ _ _ _ _ _)
   | (with_reducible exact compositorlaw21_awake.mono _)
   | (with_reducible exact dem_Pair.mono _ _ _ _ _ _ _ _ _ _ _ _ _ _ _ _ _ _ _ _ _ _ _ _ _ _ _ _ _)
   | (with_reducible exact LeO.refl _)
   | (with_reducible exact LeO.none _)
   | (with_reducible refine LeO.ite ?_ ?_)
   | (with_reducible refine LeO.bind ?_ (fun _ => ?_))
   | exact ih0 _ _ _ _ _ _ _ _ _ _ _ _ _ _ _ _ _ _ _ _ _ _ _ _ _ _
   | exact ih1 _ _ _ _ _ _ _ _ _ _ _ _ _ _ _ _ _ _ _ _ _ _ _ _ _ _ _ _ _ _
   | exact ih2 _ _ _ _ _ _ _ _ _ _ _ _ _ _ _ _ _ _ _ _ _ _ _ _ _ _ _ _ _ _ _ _ _ _
   | exact ih3 _ _ _ _ _ _ _ _ _ _ _ _ _ _ _ _ _ _ _ _ _ _ _ _ _ _ _ _ _ _ _ _ _
   | exact compositorlaw21_awake.mono _
   | exact dem_Pair.mono _ _ _ _ _ _ _ _ _ _ _ _ _ _ _ _ _ _ _ _ _ _ _ _ _ _ _ _ _
   | exact LeO.none _
   | refine LeO.ite ?_ ?_
   | refine LeO.bind ?_ (fun _ => ?_)
  ·intro y0 y1 y2 y3 y4 y5 y6 y7 y8 y9 y10 y11 y12 y13 y14 y15 y16 y17 y18 y19 y20 y21 y22 y23 y24 y25 y26 y27 y28 y29 y30 y31 y32
   unfold compositorlaw21_DemRuns.j3
   repeat' first
   | (with_reducible exact ih0 _ _ _ _ _ _ _ _ _ _ _ _ _ _ _ _ _ _ _ _ _ _ _ _ _ _)
   | (with_reducible exact ih1 _ _ _ _ _ _ _ _ _ _ _ _ _ _ _ _ _ _ _ _ _ _ _ _ _ _ _ _ _ _)
   | (with_reducible exact ih2 _ _ _ _ _ _ _ _ _ _ _ _ _ _ _ _ _ _ _ _ _ _ _ _ _ _ _ _ _ _ _ _ _ _)
   | (with_reducible exact ih3 _ _ _ _ _ _ _ _ _ _ _ _ _ _ _ _ _ _ _ _ _ _ _ _ _ _ _ _ _ _ _ _ _)
   | (with_reducible exact compositorlaw21_awake.mono _)
   | (with_reducible exact dem_Pair.mono _ _ _ _ _ _ _ _ _ _ _ _ _ _ _ _ _ _ _ _ _ _ _ _ _ _ _ _ _)
   | (with_reducible exact LeO.refl _)
   | (with_reducible exact LeO.none _)
   | (with_reducible refine LeO.ite ?_ ?_)
   | (with_reducible refine LeO.bind ?_ (fun _ => ?_))
   | exact ih0 _ _ _ _ _ _ _ _ _ _ _ _ _ _ _ _ _ _ _ _ _ _ _ _ _ _
   | exact ih1 _ _ _ _ _ _ _ _ _ _ _ _ _ _ _ _ _ _ _ _ _ _ _ _ _ _ _ _ _ _
   | exact ih2 _ _ _ _ _ _ _ _ _ _ _ _ _ _ _ _ _ _ _ _ _ _ _ _ _ _ _ _ _ _ _ _ _ _
   | exact ih3 _ _ _ _ _ _ _ _ _ _ _ _ _ _ _ _ _ _ _ _ _ _ _ _ _ _ _ _ _ _ _ _ _
   | exact compositorlaw21_awake.mono _
   | exact dem_Pair.mono _ _ _ _ _ _ _ _ _ _ _ _ _ _ _ _ _ _ _ _ _ _ _ _ _ _ _ _ _
   | exact LeO.none _
   | refine LeO.ite ?_ ?_
   | refine LeO.bind ?_ (fun _ => ?_)
theorem compositorlaw21_DemRuns.mono : ∀ a0 a1 a2 a3 a4 a5 a6 a7 a8 a9 a10 a11 a12 a13 a14 a15 a16 a17 a18 a19 a20 a21 a22 a23 k, LeO (compositorlaw21_DemRuns.f k a0 a1 a2 a3 a4 a5 a6 a7 a8 a9 a10 a11 a12 a13 a14 a15 a16 a17 a18 a19 a20 a21 a22 a23) (compositorlaw21_DemRuns.f (k + 1) a0 a1 a2 a3 a4 a5 a6 a7 a8 a9 a10 a11 a12 a13 a14 a15 a16 a17 a18 a19 a20 a21 a22 a23) := by
 intro a0 a1 a2 a3 a4 a5 a6 a7 a8 a9 a10 a11 a12 a13 a14 a15 a16 a17 a18 a19 a20 a21 a22 a23 k
 obtain ⟨ih0, ih1, ih2, ih3⟩ := compositorlaw21_DemRuns.mono_l k
 unfold compositorlaw21_DemRuns.f
 repeat' first
   | (with_reducible exact ih0 _ _ _ _ _ _ _ _ _ _ _ _ _ _ _ _ _ _ _ _ _ _ _ _ _ _)
   | (with_reducible exact ih1 _ _ _ _ _ _ _ _ _ _ _ _ _ _ _ _ _ _ _ _ _ _ _ _ _ _ _ _ _ _)
   | (with_reducible exact ih2 _ _ _ _ _ _ _ _ _ _ _ _ _ _ _ _ _ _ _ _ _ _ _ _ _ _ _ _ _ _ _ _ _ _)
   | (with_reducible exact ih3 _ _ _ _ _ _ _ _ _ _ _ _ _ _ _ _ _ _ _ _ _ _ _ _ _ _ _ _ _ _ _ _ _)
   | (with_reducible exact compositorlaw21_awake.mono _)
   | (with_reducible exact dem_Pair.mono _ _ _ _ _ _ _ _ _ _ _ _ _ _ _ _ _ _ _ _ _ _ _ _ _ _ _ _ _)
   | (with_reducible exact LeO.refl _)
   | (with_reducible exact LeO.none _)
   | (with_reducible refine LeO.ite ?_ ?_)
   | (with_reducible refine LeO.bind ?_ (fun _ => ?_))
   | exact ih0 _ _ _ _ _ _ _ _ _ _ _ _ _ _ _ _ _ _ _ _ _ _ _ _ _ _
   | exact ih1 _ _ _ _ _ _ _ _ _ _ _ _ _ _ _ _ _ _ _ _ _ _ _ _ _ _ _ _ _ _
   | exact ih2 _ _ _ _ _ _ _ _ _ _ _ _ _ _ _ _ _ _ _ _ _ _ _ _ _ _ _ _ _ _ _ _ _ _
   | exact ih3 _ _ _ _ _ _ _ _ _ _ _ _ _ _ _ _ _ _ _ _ _ _ _ _ _ _ _ _ _ _ _ _ _
   | exact compositorlaw21_awake.mono _
   | exact dem_Pair.mono _ _ _ _ _ _ _ _ _ _ _ _ _ _ _ _ _ _ _ _ _ _ _ _ _ _ _ _ _
   | exact LeO.none _
   | refine LeO.ite ?_ ?_
   | refine LeO.bind ?_ (fun _ => ?_)
set_option maxHeartbeats 8000000 in
set_option maxRecDepth 100000 in
theorem compositorlaw21_DemRuns.calls (k : Nat) (a0_0 : Int) (a0_1 : Int) (a0_2 : Int) (a0_3 : Int) (A0_4 : Option Addr) (c0_4 : Nat) (l0_4 : List (S47)) (a0_5 : Int) (a0_6 : Int) (a0_7 : Int) (a0_8 : Int) (a0_9 : Int) (a0_10 : Int) (a0_11 : Int) (a0_12 : Int) (a0_13 : Int) (a0_14 : Int) (a0_15 : Int) (a0_16 : Int) (a0_17 : Int) (a0_18 : Int) (a0_19 : Int) (a0_20 : Int) (A1 : Option Addr) (c1 : Nat) (l1 : List Int) (a2 : Int) (a3 : Int) (r : Bool) (w : World) (hr0_4 : Kd.C k47 w A0_4 l0_4.length l0_4) (hc0_4 : l0_4.length ≤ c0_4) (hr1 : Kd.C (Kd.int .u8) w A1 l1.length l1) (hc1 : l1.length ≤ c1) (h : compositorlaw21_DemRuns.f k a0_0 a0_1 a0_2 a0_3 l0_4 a0_5 a0_6 a0_7 a0_8 a0_9 a0_10 a0_11 a0_12 a0_13 a0_14 a0_15 a0_16 a0_17 a0_18 a0_19 a0_20 l1 a2 a3 = some r) :
  Calls Try.prog 5 #[.agg #[.int .i64 a0_0, .int .i64 a0_1, .int .i64 a0_2, .int .i64 a0_3, .slice A0_4 l0_4.length c0_4, .int .i64 a0_5, .int .i64 a0_6, .int .i64 a0_7, .int .i64 a0_8, .int .i64 a0_9, .int .i64 a0_10, .int .i64 a0_11, .int .i64 a0_12, .int .i64 a0_13, .int .i64 a0_14, .int .i64 a0_15, .int .i64 a0_16, .int .i64 a0_17, .int .i64 a0_18, .int .i64 a0_19, .int .i64 a0_20], .slice A1 l1.length c1, .int .u8 a2, .int .u8 a3] w fun e w' => e = .returned (.bool r) ∧ Below w.heap.size w w' := by
 have hu24 := Try.underlying24
 have hu26 := Try.underlying26
 have HR0_4 := Aside0.mk hr0_4
 have HC0_4 := Aside0.mk hc0_4
 clear hr0_4 hc0_4
 have HR1 := Aside0.mk hr1
 have HC1 := Aside0.mk hc1
 clear hr1 hc1
 have HB := Aside0.mk (Below.refl w.heap.size w)
 have H : ((compositorlaw21_awake.f k).bind fun t230 => (if (l0_4.length : Int) > 100 then (compositorlaw21_DemRuns.j0 k l1 a2 a3 t230 true a0_0 a0_1 a0_2 a0_3 l0_4 a0_5 a0_6 a0_7 a0_8 a0_9 a0_10 a0_11 a0_12 a0_13 a0_14 a0_15 a0_16 a0_17 a0_18 a0_19 a0_20) else (compositorlaw21_DemRuns.j0 k l1 a2 a3 t230 (decide ((l1.length : Int) > 100)) a0_0 a0_1 a0_2 a0_3 l0_4 a0_5 a0_6 a0_7 a0_8 a0_9 a0_10 a0_11 a0_12 a0_13 a0_14 a0_15 a0_16 a0_17 a0_18 a0_19 a0_20))) = some r := h
 clear h
 replace H := Option.bind_eq_some_iff.mp H
 obtain ⟨t230, A50, H⟩ := H
 replace H : (if (l0_4.length : Int) > 100 then (compositorlaw21_DemRuns.j0 k l1 a2 a3 t230 true a0_0 a0_1 a0_2 a0_3 l0_4 a0_5 a0_6 a0_7 a0_8 a0_9 a0_10 a0_11 a0_12 a0_13 a0_14 a0_15 a0_16 a0_17 a0_18 a0_19 a0_20) else (compositorlaw21_DemRuns.j0 k l1 a2 a3 t230 (decide ((l1.length : Int) > 100)) a0_0 a0_1 a0_2 a0_3 l0_4 a0_5 a0_6 a0_7 a0_8 a0_9 a0_10 a0_11 a0_12 a0_13 a0_14 a0_15 a0_16 a0_17 a0_18 a0_19 a0_20)) = some r := H
 have A5 := Aside0.mk A50
 clear A50
 have HC6 := Aside0.mk H
 clear H
 go_enter Try.func5, Try.ntmps5
 go_upto_region 2 with (first | ((with_reducible refine gate_load (T := 24) rfl ?_); refine load_row_event (by first | rfl | (go_simp; done)) 24 _ rfl gb229 rfl 24 _ (0, 0) _ (by (with_reducible repeat (first | refine blk_drewN ?_ _ | refine blk_drew ?_ | refine blk_alloc ?_ _)); first | exact BK229.out) hu24 rfl (by kernel_rfl) ?_) | ((with_reducible refine gate_store (t := 24) rfl ?_); refine store_row_event (base := w.heap.size) rfl rfl 24 _ _ rfl (g := gb229) (by rfl) (by rfl) (by (with_reducible repeat (first | refine blk_drewN ?_ _ | refine blk_drew ?_ | refine blk_alloc ?_ _)); exact BK229.out) (by kernel_rfl) (by rfl) (by rfl) GE229.out ?_; intro ws_ hs_ hk_ hb_; have n0_ := Aside0.mk (Below.trans (by repeat (first | (with_reducible first | exact HB.out | apply below_alloc | apply pw_below_drewN | apply below_drew1) | exact HB.out)) hb_); clear HB; have HB := n0_; clear n0_; clear BK229; have BK229 := Aside0.mk hs_; clear hs_; have hxs_ := blk_cell BK229.out; have hys_ := blk_frozen BK229.out; clear hk_ hb_) | ((with_reducible refine gate_dst (N := 4) rfl ?_); (try (refine gate_guard (by rfl) ?_; dsimp only)); refine box_event ?hg (N := 4) ?hd (cs := #[.int .i64 a0_0, .int .i64 a0_1, .int .i64 a0_2, .int .i64 a0_3, .slice A0_4 l0_4.length c0_4, .int .i64 a0_5, .int .i64 a0_6, .int .i64 a0_7, .int .i64 a0_8, .int .i64 a0_9, .int .i64 a0_10, .int .i64 a0_11, .int .i64 a0_12, .int .i64 a0_13, .int .i64 a0_14, .int .i64 a0_15, .int .i64 a0_16, .int .i64 a0_17, .int .i64 a0_18, .int .i64 a0_19, .int .i64 a0_20]) (t := 24) ?hr ?_; (case hd => rfl); (case hg => rfl); (case hr => first | (go_simp; done) | (go_simp; rfl)); intro gb229 hg w7 hbox hb; have n0_ := Aside0.mk (below_step (by repeat (first | (with_reducible first | exact HB.out | apply below_alloc | apply pw_below_drewN | apply below_drew1) | exact HB.out)) hb); have n1_ := Aside0.mk (hbox); have n2_ := Aside0.mk ((by rw [hg]; exact (below_size (by repeat (first | (with_reducible first | exact HB.out | apply below_alloc | apply pw_below_drewN | apply below_drew1) | exact HB.out))) : w.heap.size ≤ gb229)); have n3_ := Aside0.mk ((by rw [hg]; exact (below_size (by repeat (first | (with_reducible first | exact HB.out | apply below_alloc | apply pw_below_drewN | apply below_drew1) | exact HB.out))) : w.heap.size ≤ gb229)); clear HB; have HB := n0_; have BK229 := n1_; have GW229 := n2_; have GE229 := n3_; clear n0_ n1_ n2_ n3_; clear hb hbox hg) | ((with_reducible refine gate_callee (f := 8) rfl ?_); refine goesL_ (some 19) rfl rfl Try.func8 (by kernel_rfl) rfl #[] rfl (by (try simp only [List.map_toArray, List.map_cons, List.map_nil]); first | done | rfl | (simp only [List.length_drop, List.length_take]; rfl)) ?_; (with_reducible refine (compositorlaw21_awake.calls k  t230 _ A5.out).mono ?_); rintro e w8 ⟨rfl, hb⟩; refine ⟨_, rfl, ?_⟩; have n0_ := Aside0.mk (blk_below (g := gb229) (o := .cells #[.int .i64 a0_0, .int .i64 a0_1, .int .i64 a0_2, .int .i64 a0_3, .slice A0_4 l0_4.length c0_4, .int .i64 a0_5, .int .i64 a0_6, .int .i64 a0_7, .int .i64 a0_8, .int .i64 a0_9, .int .i64 a0_10, .int .i64 a0_11, .int .i64 a0_12, .int .i64 a0_13, .int .i64 a0_14, .int .i64 a0_15, .int .i64 a0_16, .int .i64 a0_17, .int .i64 a0_18, .int .i64 a0_19, .int .i64 a0_20] 24 (0, 0)) (by (with_reducible repeat (first | refine blk_drewN ?_ _ | refine blk_drew ?_ | refine blk_alloc ?_ _)); exact BK229.out) hb); have n1_ := Aside0.mk (below_step (by repeat (first | (with_reducible first | exact HB.out | apply below_alloc | apply pw_below_drewN | apply below_drew1 | refine below_set ?_ GE229.out) | exact HB.out)) hb); clear BK229; clear HB; have BK229 := n0_; have HB := n1_; clear n0_ n1_; (try clear hb); (try clear hb2); (try clear hk); (try clear hi)))
 (try simp only [Act.put, List.setIfInBounds_toArray, List.set_cons_zero, List.set_cons_succ])
 go_cut [28] (fun v28 wc => ∃ (kq : Nat) (x28_5 : Bool), v28 = .bool x28_5 ∧ Aside0 (compositorlaw21_DemRuns.j0 kq l1 a2 a3 t230 x28_5 a0_0 a0_1 a0_2 a0_3 l0_4 a0_5 a0_6 a0_7 a0_8 a0_9 a0_10 a0_11 a0_12 a0_13 a0_14 a0_15 a0_16 a0_17 a0_18 a0_19 a0_20 = some r) ∧ Aside0 (kq ≤ k) ∧ Aside0 (wc.heap[gb229]? = some (.cells #[.int .i64 a0_0, .int .i64 a0_1, .int .i64 a0_2, .int .i64 a0_3, (.slice A0_4 l0_4.length c0_4), .int .i64 a0_5, .int .i64 a0_6, .int .i64 a0_7, .int .i64 a0_8, .int .i64 a0_9, .int .i64 a0_10, .int .i64 a0_11, .int .i64 a0_12, .int .i64 a0_13, .int .i64 a0_14, .int .i64 a0_15, .int .i64 a0_16, .int .i64 a0_17, .int .i64 a0_18, .int .i64 a0_19, .int .i64 a0_20] 24 (0, 0))) ∧ Aside0 (Below w.heap.size w wc))
 case first => as_aux_lemma =>
  have H := HC6.out
  clear HC6
  by_cases c9 : (l0_4.length : Int) > 100
  ·rw [if_pos c9] at H
   have c9b0 : decide (100 < (l0_4.length : Int)) = true := decide_eq_true c9
   have c9b1 : decide (100 < l0_4.length) = true := decide_eq_true (by omega)
   clear c9
   (first | rw [c9b0] | (simp only [i64_w, i32_w]; rw [c9b0]) | skip)
   have H' := Aside0.mk H
   clear H
   have hcz10_0 := blk_cell BK229.out
   have hfz10_0 := blk_frozen BK229.out
   go_wp2
   go_meet
   case rel => exact ⟨_, (true), (by first | rfl | (simp; done) | (simp [*]; done)), H', ⟨by first | omega | exact Nat.le_refl _⟩, ⟨by (with_reducible repeat (first | refine blk_drewN ?_ _ | refine blk_drew ?_ | refine blk_alloc ?_ _)); exact BK229.out⟩, ⟨by repeat (first | (with_reducible first | exact HB.out | apply below_alloc | apply pw_below_drewN | apply below_drew1 | refine below_set ?_ GE229.out) | exact HB.out)⟩⟩
  ·rw [if_neg c9] at H
   have c9b0 : decide (100 < (l0_4.length : Int)) = false := decide_eq_false c9
   have c9b1 : decide (100 < l0_4.length) = false := decide_eq_false (by omega)
   clear c9
   (first | rw [c9b0] | (simp only [i64_w, i32_w]; rw [c9b0]) | skip)
   have H' := Aside0.mk H
   clear H
   have hcz11_0 := blk_cell BK229.out
   have hfz11_0 := blk_frozen BK229.out
   go_wp2
   go_meet
   case rel => exact ⟨_, (decide ((l1.length : Int) > 100)), (by first | rfl | (simp; done) | (simp [*]; done)), H', ⟨by first | omega | exact Nat.le_refl _⟩, ⟨by (with_reducible repeat (first | refine blk_drewN ?_ _ | refine blk_drew ?_ | refine blk_alloc ?_ _)); exact BK229.out⟩, ⟨by repeat (first | (with_reducible first | exact HB.out | apply below_alloc | apply pw_below_drewN | apply below_drew1 | refine below_set ?_ GE229.out) | exact HB.out)⟩⟩
 case rest => as_aux_lemma =>
  clear HC6
  try clear c1
  try clear p2
  try clear c5
  try clear c8
  try clear c9
  try clear c9b0
  try clear c9b1
  try clear hcz10_0
  try clear hcz10_1
  try clear hcz10_10
  try clear hcz10_11
  try clear hcz10_12
  try clear hcz10_13
  try clear hcz10_14
  try clear hcz10_15
  try clear hcz10_16
  try clear hcz10_17
  try clear hcz10_18
  try clear hcz10_19
  try clear hcz10_2
  try clear hcz10_20
  try clear hcz10_3
  try clear hcz10_4
  try clear hcz10_5
  try clear hcz10_6
  try clear hcz10_7
  try clear hcz10_8
  try clear hcz10_9
  try clear hcz11_0
  try clear hcz11_1
  try clear hcz11_10
  try clear hcz11_11
  try clear hcz11_12
  try clear hcz11_13
  try clear hcz11_14
  try clear hcz11_15
  try clear hcz11_16
  try clear hcz11_17
  try clear hcz11_18
  try clear hcz11_19
  try clear hcz11_2
  try clear hcz11_20
  try clear hcz11_3
  try clear hcz11_4
  try clear hcz11_5
  try clear hcz11_6
  try clear hcz11_7
  try clear hcz11_8
  try clear hcz11_9
  try clear hfz10_0
  try clear hfz10_1
  try clear hfz10_10
  try clear hfz10_11
  try clear hfz10_12
  try clear hfz10_13
  try clear hfz10_14
  try clear hfz10_15
  try clear hfz10_16
  try clear hfz10_17
  try clear hfz10_18
  try clear hfz10_19
  try clear hfz10_2
  try clear hfz10_20
  try clear hfz10_3
  try clear hfz10_4
  try clear hfz10_5
  try clear hfz10_6
  try clear hfz10_7
  try clear hfz10_8
  try clear hfz10_9
  try clear hfz11_0
  try clear hfz11_1
  try clear hfz11_10
  try clear hfz11_11
  try clear hfz11_12
  try clear hfz11_13
  try clear hfz11_14
  try clear hfz11_15
  try clear hfz11_16
  try clear hfz11_17
  try clear hfz11_18
  try clear hfz11_19
  try clear hfz11_2
  try clear hfz11_20
  try clear hfz11_3
  try clear hfz11_4
  try clear hfz11_5
  try clear hfz11_6
  try clear hfz11_7
  try clear hfz11_8
  try clear hfz11_9
  obtain ⟨kq, x28_5, rfl, HA, HJ5, BK229, HB⟩ := hcut
  cases kq with
  | zero => exact absurd HA.out (by simp [compositorlaw21_DemRuns.j0])
  | succ kj5 =>
   have H := HA.out
   clear HA
   simp only [compositorlaw21_DemRuns.j0] at H
   by_cases c12 : x28_5 = true
   ·subst c12
    have H1 : (some t230) = some r := by rw [if_pos rfl] at H; exact H
    clear H
    have H := H1
    clear H1
    obtain rfl := Option.some.inj H
    go_wp2
    go_ret
    exact ⟨by first | rfl | (simp [errW_none, errW_some] <;> rfl) | (simp [*, errW_none, errW_some] <;> rfl), by repeat (first | (with_reducible first | exact HB.out | apply below_alloc | apply pw_below_drewN | apply below_drew1 | refine below_set ?_ GE229.out) | exact HB.out)⟩
   ·replace c12 := Bool.eq_false_iff.mpr c12
    subst c12
    have H1 : ((dem_First.f).bind fun bt231 => (compositorlaw21_DemRuns.l0 kj5 l1 a2 a3 t230 0 0 a0_0 a0_1 a0_2 a0_3 l0_4 a0_5 a0_6 a0_7 a0_8 a0_9 a0_10 a0_11 a0_12 a0_13 a0_14 a0_15 a0_16 a0_17 a0_18 a0_19 a0_20 bt231.1 bt231.2.1 bt231.2.2)) = some r := by rw [if_neg (show ¬ (false = true) by decide)] at H; exact H
    clear H
    have H := H1
    clear H1
    replace H := Option.bind_eq_some_iff.mp H
    obtain ⟨⟨t231, t232, t233⟩, A130, H⟩ := H
    replace H : (compositorlaw21_DemRuns.l0 kj5 l1 a2 a3 t230 0 0 a0_0 a0_1 a0_2 a0_3 l0_4 a0_5 a0_6 a0_7 a0_8 a0_9 a0_10 a0_11 a0_12 a0_13 a0_14 a0_15 a0_16 a0_17 a0_18 a0_19 a0_20 t231 t232 t233) = some r := H
    have A13 := Aside0.mk A130
    clear A130
    have H' := Aside0.mk H
    clear H
    go_wp2_with (first | ((with_reducible refine gate_load (T := 24) rfl ?_); refine load_row_event (by first | rfl | (go_simp; done)) 24 _ rfl gb229 rfl 24 _ (0, 0) _ (by (with_reducible repeat (first | refine blk_drewN ?_ _ | refine blk_drew ?_ | refine blk_alloc ?_ _)); first | exact BK229.out | exact (blk_far BK229.out NB229_234.out _)) hu24 rfl (by kernel_rfl) ?_) | ((with_reducible refine gate_load (T := 26) rfl ?_); refine load_row_event (by first | rfl | (go_simp; done)) 26 _ rfl gb234 rfl 26 _ (0, 0) _ (by (with_reducible repeat (first | refine blk_drewN ?_ _ | refine blk_drew ?_ | refine blk_alloc ?_ _)); first | exact BK234.out | exact (blk_far BK234.out NB234_229.out _)) hu26 rfl (by kernel_rfl) ?_) | ((with_reducible refine gate_store (t := 24) rfl ?_); refine store_row_event (base := w.heap.size) rfl rfl 24 _ _ rfl (g := gb229) (by rfl) (by rfl) (by (with_reducible repeat (first | refine blk_drewN ?_ _ | refine blk_drew ?_ | refine blk_alloc ?_ _)); exact BK229.out) (by kernel_rfl) (by rfl) (by rfl) GE229.out ?_; intro ws_ hs_ hk_ hb_; have n0_ := Aside0.mk (Below.trans (by repeat (first | (with_reducible first | exact HB.out | apply below_alloc | apply pw_below_drewN | apply below_drew1) | exact HB.out)) hb_); clear HB; have HB := n0_; clear n0_; clear BK229; have BK229 := Aside0.mk hs_; clear hs_; (try (have z_ := Aside0.mk (blk_else BK234.out NB234_229.out hk_); clear BK234; have BK234 := z_; clear z_)); have hxs_ := blk_cell BK229.out; have hys_ := blk_frozen BK229.out; clear hk_ hb_) | ((with_reducible refine gate_store (t := 26) rfl ?_); refine store_row_event (base := w.heap.size) rfl rfl 26 _ _ rfl (g := gb234) (by rfl) (by rfl) (by (with_reducible repeat (first | refine blk_drewN ?_ _ | refine blk_drew ?_ | refine blk_alloc ?_ _)); exact BK234.out) (by kernel_rfl) (by rfl) (by rfl) GE234.out ?_; intro ws_ hs_ hk_ hb_; have n0_ := Aside0.mk (Below.trans (by repeat (first | (with_reducible first | exact HB.out | apply below_alloc | apply pw_below_drewN | apply below_drew1) | exact HB.out)) hb_); clear HB; have HB := n0_; clear n0_; clear BK234; have BK234 := Aside0.mk hs_; clear hs_; (try (have z_ := Aside0.mk (blk_else BK229.out NB229_234.out hk_); clear BK229; have BK229 := z_; clear z_)); have hxs_ := blk_cell BK234.out; have hys_ := blk_frozen BK234.out; clear hk_ hb_) | ((with_reducible refine gate_callee (f := 16) rfl ?_); refine goesL_ (some 30) rfl rfl Try.func16 (by kernel_rfl) rfl #[] rfl (by (try simp only [List.map_toArray, List.map_cons, List.map_nil]); first | done | rfl | (simp only [List.length_drop, List.length_take]; rfl)) ?_; (with_reducible refine (dem_First.calls  t231 t232 t233 _ A13.out).mono ?_); rintro e w14 ⟨rfl, hb⟩; refine ⟨_, rfl, ?_⟩; have n0_ := Aside0.mk (blk_below (g := gb229) (o := .cells #[.int .i64 a0_0, .int .i64 a0_1, .int .i64 a0_2, .int .i64 a0_3, .slice A0_4 l0_4.length c0_4, .int .i64 a0_5, .int .i64 a0_6, .int .i64 a0_7, .int .i64 a0_8, .int .i64 a0_9, .int .i64 a0_10, .int .i64 a0_11, .int .i64 a0_12, .int .i64 a0_13, .int .i64 a0_14, .int .i64 a0_15, .int .i64 a0_16, .int .i64 a0_17, .int .i64 a0_18, .int .i64 a0_19, .int .i64 a0_20] 24 (0, 0)) (by (with_reducible repeat (first | refine blk_drewN ?_ _ | refine blk_drew ?_ | refine blk_alloc ?_ _)); exact BK229.out) hb); have n1_ := Aside0.mk (below_step (by repeat (first | (with_reducible first | exact HB.out | apply below_alloc | apply pw_below_drewN | apply below_drew1 | refine below_set ?_ GE229.out) | exact HB.out)) hb); clear BK229; clear HB; have BK229 := n0_; have HB := n1_; clear n0_ n1_; (try clear hb); (try clear hb2); (try clear hk); (try clear hi)) | ((with_reducible refine gate_dst (N := 10) rfl ?_); (try (refine gate_guard (by rfl) ?_; dsimp only)); refine box_event ?hg (N := 10) ?hd (cs := #[.int .i64 0, .int .i64 0, .int .i64 0]) (t := 26) ?hr ?_; (case hd => rfl); (case hg => rfl); (case hr => first | (go_simp; done) | (go_simp; rfl)); intro gb234 hg w15 hbox hb; have n0_ := Aside0.mk (blk_below (g := gb229) (o := .cells #[.int .i64 a0_0, .int .i64 a0_1, .int .i64 a0_2, .int .i64 a0_3, .slice A0_4 l0_4.length c0_4, .int .i64 a0_5, .int .i64 a0_6, .int .i64 a0_7, .int .i64 a0_8, .int .i64 a0_9, .int .i64 a0_10, .int .i64 a0_11, .int .i64 a0_12, .int .i64 a0_13, .int .i64 a0_14, .int .i64 a0_15, .int .i64 a0_16, .int .i64 a0_17, .int .i64 a0_18, .int .i64 a0_19, .int .i64 a0_20] 24 (0, 0)) (by (with_reducible repeat (first | refine blk_drewN ?_ _ | refine blk_drew ?_ | refine blk_alloc ?_ _)); exact BK229.out) hb); have n1_ := Aside0.mk (below_step (by repeat (first | (with_reducible first | exact HB.out | apply below_alloc | apply pw_below_drewN | apply below_drew1 | refine below_set ?_ GE229.out) | exact HB.out)) hb); have n2_ := Aside0.mk (hbox); have n3_ := Aside0.mk ((by rw [hg]; exact (below_size (by repeat (first | (with_reducible first | exact HB.out | apply below_alloc | apply pw_below_drewN | apply below_drew1 | refine below_set ?_ GE229.out) | exact HB.out))) : w.heap.size ≤ gb234)); have n4_ := Aside0.mk ((by rw [hg]; exact (below_size (by repeat (first | (with_reducible first | exact HB.out | apply below_alloc | apply pw_below_drewN | apply below_drew1 | refine below_set ?_ GE229.out) | exact HB.out))) : w.heap.size ≤ gb234)); have n5_ := Aside0.mk ((by rw [hg]; exact Nat.ne_of_lt (blk_lt (g := gb229) (o := .cells #[.int .i64 a0_0, .int .i64 a0_1, .int .i64 a0_2, .int .i64 a0_3, .slice A0_4 l0_4.length c0_4, .int .i64 a0_5, .int .i64 a0_6, .int .i64 a0_7, .int .i64 a0_8, .int .i64 a0_9, .int .i64 a0_10, .int .i64 a0_11, .int .i64 a0_12, .int .i64 a0_13, .int .i64 a0_14, .int .i64 a0_15, .int .i64 a0_16, .int .i64 a0_17, .int .i64 a0_18, .int .i64 a0_19, .int .i64 a0_20] 24 (0, 0)) (by (with_reducible repeat (first | refine blk_drewN ?_ _ | refine blk_drew ?_ | refine blk_alloc ?_ _)); exact BK229.out)) : gb229 ≠ gb234)); have n6_ := Aside0.mk ((by rw [hg]; exact Nat.ne_of_gt (blk_lt (g := gb229) (o := .cells #[.int .i64 a0_0, .int .i64 a0_1, .int .i64 a0_2, .int .i64 a0_3, .slice A0_4 l0_4.length c0_4, .int .i64 a0_5, .int .i64 a0_6, .int .i64 a0_7, .int .i64 a0_8, .int .i64 a0_9, .int .i64 a0_10, .int .i64 a0_11, .int .i64 a0_12, .int .i64 a0_13, .int .i64 a0_14, .int .i64 a0_15, .int .i64 a0_16, .int .i64 a0_17, .int .i64 a0_18, .int .i64 a0_19, .int .i64 a0_20] 24 (0, 0)) (by (with_reducible repeat (first | refine blk_drewN ?_ _ | refine blk_drew ?_ | refine blk_alloc ?_ _)); exact BK229.out)) : gb234 ≠ gb229)); clear BK229; clear HB; have BK229 := n0_; have HB := n1_; have BK234 := n2_; have GW234 := n3_; have GE234 := n4_; have NB229_234 := n5_; have NB234_229 := n6_; clear n0_ n1_ n2_ n3_ n4_ n5_ n6_; clear hb hbox hg; have hnb16 := NB234_229.out; have hnc16 := NB229_234.out; have hcz17_0 : w15.cell? ⟨gb234, 0, none⟩ = some (.int .i64 0) := (blk_cell BK234.out 0).trans rfl; have hcz17_1 : w15.cell? ⟨gb234, 1, none⟩ = some (.int .i64 0) := (blk_cell BK234.out 1).trans rfl; have hcz17_2 : w15.cell? ⟨gb234, 2, none⟩ = some (.int .i64 0) := (blk_cell BK234.out 2).trans rfl; have hfz17_0 := blk_frozen BK234.out 0; have hfz17_1 := blk_frozen BK234.out 1; have hfz17_2 := blk_frozen BK234.out 2))
    go_loopg [11, 12] kj5 (fun kq v11 v12 w' => ∃ (x11_2 : Int) (x12_2 : Int) (x235000_2 : Int) (x235001_2 : Int) (x235002_2 : Int), v11 = .int .i64 x11_2 ∧ v12 = .int .i64 x12_2 ∧ Aside0 (compositorlaw21_DemRuns.l0 kq l1 a2 a3 t230 x11_2 x12_2 a0_0 a0_1 a0_2 a0_3 l0_4 a0_5 a0_6 a0_7 a0_8 a0_9 a0_10 a0_11 a0_12 a0_13 a0_14 a0_15 a0_16 a0_17 a0_18 a0_19 a0_20 x235000_2 x235001_2 x235002_2 = some r) ∧ Aside0 (kq ≤ kj5) ∧ Aside0 (w'.heap[gb229]? = some (.cells #[.int .i64 a0_0, .int .i64 a0_1, .int .i64 a0_2, .int .i64 a0_3, (.slice A0_4 l0_4.length c0_4), .int .i64 a0_5, .int .i64 a0_6, .int .i64 a0_7, .int .i64 a0_8, .int .i64 a0_9, .int .i64 a0_10, .int .i64 a0_11, .int .i64 a0_12, .int .i64 a0_13, .int .i64 a0_14, .int .i64 a0_15, .int .i64 a0_16, .int .i64 a0_17, .int .i64 a0_18, .int .i64 a0_19, .int .i64 a0_20] 24 (0, 0))) ∧ Aside0 (w'.heap[gb234]? = some (.cells #[.int .i64 x235000_2, .int .i64 x235001_2, .int .i64 x235002_2] 26 (0, 0))) ∧ Aside0 (Below w.heap.size w w'))
    case atStart => exact ⟨(0), (0), (t231), (t232), (t233), (by first | rfl | (simp; done) | (simp [*]; done)), (by first | rfl | (simp; done) | (simp [*]; done)), H', ⟨Nat.le_refl _⟩, ⟨by (with_reducible repeat (first | refine blk_drewN ?_ _ | refine blk_drew ?_ | refine blk_alloc ?_ _)); (try (refine blk_far ?_ NB229_234.out _)); (with_reducible repeat (first | refine blk_drewN ?_ _ | refine blk_drew ?_ | refine blk_alloc ?_ _)); (try (refine blk_far ?_ NB229_234.out _)); (with_reducible repeat (first | refine blk_drewN ?_ _ | refine blk_drew ?_ | refine blk_alloc ?_ _)); (try (refine blk_far ?_ NB229_234.out _)); (with_reducible repeat (first | refine blk_drewN ?_ _ | refine blk_drew ?_ | refine blk_alloc ?_ _)); exact BK229.out⟩, ⟨by (with_reducible repeat (first | refine blk_drewN ?_ _ | refine blk_drew ?_ | refine blk_alloc ?_ _)); (try (refine blk_put (cs := #[.int .i64 t231, .int .i64 t232, .int .i64 0]) ?_ 2 _ rfl)); (with_reducible repeat (first | refine blk_drewN ?_ _ | refine blk_drew ?_ | refine blk_alloc ?_ _)); (try (refine blk_put (cs := #[.int .i64 t231, .int .i64 0, .int .i64 0]) ?_ 1 _ rfl)); (with_reducible repeat (first | refine blk_drewN ?_ _ | refine blk_drew ?_ | refine blk_alloc ?_ _)); (try (refine blk_put (cs := #[.int .i64 0, .int .i64 0, .int .i64 0]) ?_ 0 _ rfl)); (with_reducible repeat (first | refine blk_drewN ?_ _ | refine blk_drew ?_ | refine blk_alloc ?_ _)); exact BK234.out⟩, ⟨by repeat (first | (with_reducible first | exact HB.out | apply below_alloc | apply pw_below_drewN | apply below_drew1 | refine below_set ?_ GE229.out | refine below_set ?_ GE234.out) | exact HB.out)⟩⟩
    case round =>
     clear H'
     try clear c1
     try clear p2
     try clear c5
     try clear c8
     try clear c9
     try clear c9b0
     try clear c9b1
     try clear c12
     try clear c16
     try clear hcz10_0
     try clear hcz10_1
     try clear hcz10_10
     try clear hcz10_11
     try clear hcz10_12
     try clear hcz10_13
     try clear hcz10_14
     try clear hcz10_15
     try clear hcz10_16
     try clear hcz10_17
     try clear hcz10_18
     try clear hcz10_19
     try clear hcz10_2
     try clear hcz10_20
     try clear hcz10_3
     try clear hcz10_4
     try clear hcz10_5
     try clear hcz10_6
     try clear hcz10_7
     try clear hcz10_8
     try clear hcz10_9
     try clear hcz11_0
     try clear hcz11_1
     try clear hcz11_10
     try clear hcz11_11
     try clear hcz11_12
     try clear hcz11_13
     try clear hcz11_14
     try clear hcz11_15
     try clear hcz11_16
     try clear hcz11_17
     try clear hcz11_18
     try clear hcz11_19
     try clear hcz11_2
     try clear hcz11_20
     try clear hcz11_3
     try clear hcz11_4
     try clear hcz11_5
     try clear hcz11_6
     try clear hcz11_7
     try clear hcz11_8
     try clear hcz11_9
     try clear hcz17_0
     try clear hcz17_1
     try clear hcz17_2
     try clear hfz10_0
     try clear hfz10_1
     try clear hfz10_10
     try clear hfz10_11
     try clear hfz10_12
     try clear hfz10_13
     try clear hfz10_14
     try clear hfz10_15
     try clear hfz10_16
     try clear hfz10_17
     try clear hfz10_18
     try clear hfz10_19
     try clear hfz10_2
     try clear hfz10_20
     try clear hfz10_3
     try clear hfz10_4
     try clear hfz10_5
     try clear hfz10_6
     try clear hfz10_7
     try clear hfz10_8
     try clear hfz10_9
     try clear hfz11_0
     try clear hfz11_1
     try clear hfz11_10
     try clear hfz11_11
     try clear hfz11_12
     try clear hfz11_13
     try clear hfz11_14
     try clear hfz11_15
     try clear hfz11_16
     try clear hfz11_17
     try clear hfz11_18
     try clear hfz11_19
     try clear hfz11_2
     try clear hfz11_20
     try clear hfz11_3
     try clear hfz11_4
     try clear hfz11_5
     try clear hfz11_6
     try clear hfz11_7
     try clear hfz11_8
     try clear hfz11_9
     try clear hfz17_0
     try clear hfz17_1
     try clear hfz17_2
     try clear p2
     obtain ⟨x11_2, x12_2, x235000_2, x235001_2, x235002_2, rfl, rfl, HA, HK2, BK229, BK234, HB⟩ := hrel
     cases gk with
     | zero => exact absurd HA.out (by simp [compositorlaw21_DemRuns.l0])
     | succ k2 =>
      have H := HA.out
      clear HA
      simp only [compositorlaw21_DemRuns.l0] at H
      by_cases c18 : x12_2 < (l1.length : Int)
      ·rw [if_pos c18] at H
       have c18b0 : decide (x12_2 < (l1.length : Int)) = true := decide_eq_true c18
       clear c18
       by_cases c19 : 0 ≤ x12_2
       ·rw [if_pos c19] at H
        have c19b0 : decide (0 ≤ x12_2) = true := decide_eq_true c19
        clear c19
        replace H := Option.bind_eq_some_iff.mp H
        obtain ⟨⟨t236, t237, t238⟩, A200, H⟩ := H
        replace H : (if (wrap64 (Int.tmod (rd l1 x12_2) 6)) = 2 then (compositorlaw21_DemRuns.j2 k2 l1 a2 a3 t230 x11_2 x12_2 true a0_0 a0_1 a0_2 a0_3 l0_4 a0_5 a0_6 a0_7 a0_8 a0_9 a0_10 a0_11 a0_12 a0_13 a0_14 a0_15 a0_16 a0_17 a0_18 a0_19 a0_20 x235000_2 x235001_2 x235002_2 t236 t237 t238) else (compositorlaw21_DemRuns.j2 k2 l1 a2 a3 t230 x11_2 x12_2 ((wrap64 (Int.tmod (rd l1 x12_2) 6)) == 3) a0_0 a0_1 a0_2 a0_3 l0_4 a0_5 a0_6 a0_7 a0_8 a0_9 a0_10 a0_11 a0_12 a0_13 a0_14 a0_15 a0_16 a0_17 a0_18 a0_19 a0_20 x235000_2 x235001_2 x235002_2 t236 t237 t238)) = some r := H
        have A20 := Aside0.mk A200
        clear A200
        have HC21 := Aside0.mk H
        clear H
        have p235 : 0 ≤ (x12_2 : Int) := of_decide_eq_true (by first | (with_reducible assumption) | assumption)
        have q235 : x12_2 < (l1.length : Int) := of_decide_eq_true (by first | (with_reducible assumption) | assumption)
        obtain ⟨ad235, e235, hx235_0⟩ := Kd.at_int HR1.out x12_2 p235 q235
        cases e235
        replace hx235_0 := (HB.out.cell (World.block_lt_of_cell? w _ hx235_0)).trans hx235_0
        replace p235 := eq_true p235
        replace q235 := eq_true q235
        have hnb22 := NB234_229.out
        have hnc22 := NB229_234.out
        have hcz23_0 : wr.cell? ⟨gb234, 0, none⟩ = some (.int .i64 x235000_2) := (blk_cell BK234.out 0).trans rfl
        have hcz23_1 : wr.cell? ⟨gb234, 1, none⟩ = some (.int .i64 x235001_2) := (blk_cell BK234.out 1).trans rfl
        have hcz23_2 : wr.cell? ⟨gb234, 2, none⟩ = some (.int .i64 x235002_2) := (blk_cell BK234.out 2).trans rfl
        have hfz23_0 := blk_frozen BK234.out 0
        have hfz23_1 := blk_frozen BK234.out 1
        have hfz23_2 := blk_frozen BK234.out 2
        go_upto_region 11 with (first | ((with_reducible refine gate_load (T := 24) rfl ?_); refine load_row_event (by first | rfl | (go_simp; done)) 24 _ rfl gb229 rfl 24 _ (0, 0) _ (by (with_reducible repeat (first | refine blk_drewN ?_ _ | refine blk_drew ?_ | refine blk_alloc ?_ _)); first | exact BK229.out | exact (blk_far BK229.out NB229_234.out _) | exact (blk_far BK229.out NB229_239.out _)) hu24 rfl (by kernel_rfl) ?_) | ((with_reducible refine gate_load (T := 26) rfl ?_); refine load_row_event (by first | rfl | (go_simp; done)) 26 _ rfl gb234 rfl 26 _ (0, 0) _ (by (with_reducible repeat (first | refine blk_drewN ?_ _ | refine blk_drew ?_ | refine blk_alloc ?_ _)); first | exact BK234.out | exact (blk_far BK234.out NB234_229.out _) | exact (blk_far BK234.out NB234_239.out _)) hu26 rfl (by kernel_rfl) ?_) | ((with_reducible refine gate_load (T := 26) rfl ?_); refine load_row_event (by first | rfl | (go_simp; done)) 26 _ rfl gb239 rfl 26 _ (0, 0) _ (by (with_reducible repeat (first | refine blk_drewN ?_ _ | refine blk_drew ?_ | refine blk_alloc ?_ _)); first | exact BK239.out | exact (blk_far BK239.out NB239_229.out _) | exact (blk_far BK239.out NB239_234.out _)) hu26 rfl (by kernel_rfl) ?_) | ((with_reducible refine gate_store (t := 24) rfl ?_); refine store_row_event (base := w.heap.size) rfl rfl 24 _ _ rfl (g := gb229) (by rfl) (by rfl) (by (with_reducible repeat (first | refine blk_drewN ?_ _ | refine blk_drew ?_ | refine blk_alloc ?_ _)); exact BK229.out) (by kernel_rfl) (by rfl) (by rfl) GE229.out ?_; intro ws_ hs_ hk_ hb_; have n0_ := Aside0.mk (Below.trans (by repeat (first | (with_reducible first | exact HB.out | apply below_alloc | apply pw_below_drewN | apply below_drew1) | exact HB.out)) hb_); clear HB; have HB := n0_; clear n0_; clear BK229; have BK229 := Aside0.mk hs_; clear hs_; (try (have z_ := Aside0.mk (blk_else BK234.out NB234_229.out hk_); clear BK234; have BK234 := z_; clear z_)); (try (have z_ := Aside0.mk (blk_else BK239.out NB239_229.out hk_); clear BK239; have BK239 := z_; clear z_)); have hxs_ := blk_cell BK229.out; have hys_ := blk_frozen BK229.out; clear hk_ hb_) | ((with_reducible refine gate_store (t := 26) rfl ?_); refine store_row_event (base := w.heap.size) rfl rfl 26 _ _ rfl (g := gb234) (by rfl) (by rfl) (by (with_reducible repeat (first | refine blk_drewN ?_ _ | refine blk_drew ?_ | refine blk_alloc ?_ _)); exact BK234.out) (by kernel_rfl) (by rfl) (by rfl) GE234.out ?_; intro ws_ hs_ hk_ hb_; have n0_ := Aside0.mk (Below.trans (by repeat (first | (with_reducible first | exact HB.out | apply below_alloc | apply pw_below_drewN | apply below_drew1) | exact HB.out)) hb_); clear HB; have HB := n0_; clear n0_; clear BK234; have BK234 := Aside0.mk hs_; clear hs_; (try (have z_ := Aside0.mk (blk_else BK229.out NB229_234.out hk_); clear BK229; have BK229 := z_; clear z_)); (try (have z_ := Aside0.mk (blk_else BK239.out NB239_234.out hk_); clear BK239; have BK239 := z_; clear z_)); have hxs_ := blk_cell BK234.out; have hys_ := blk_frozen BK234.out; clear hk_ hb_) | ((with_reducible refine gate_store (t := 26) rfl ?_); refine store_row_event (base := w.heap.size) rfl rfl 26 _ _ rfl (g := gb239) (by rfl) (by rfl) (by (with_reducible repeat (first | refine blk_drewN ?_ _ | refine blk_drew ?_ | refine blk_alloc ?_ _)); exact BK239.out) (by kernel_rfl) (by rfl) (by rfl) GE239.out ?_; intro ws_ hs_ hk_ hb_; have n0_ := Aside0.mk (Below.trans (by repeat (first | (with_reducible first | exact HB.out | apply below_alloc | apply pw_below_drewN | apply below_drew1) | exact HB.out)) hb_); clear HB; have HB := n0_; clear n0_; clear BK239; have BK239 := Aside0.mk hs_; clear hs_; (try (have z_ := Aside0.mk (blk_else BK229.out NB229_239.out hk_); clear BK229; have BK229 := z_; clear z_)); (try (have z_ := Aside0.mk (blk_else BK234.out NB234_239.out hk_); clear BK234; have BK234 := z_; clear z_)); have hxs_ := blk_cell BK239.out; have hys_ := blk_frozen BK239.out; clear hk_ hb_) | ((with_reducible refine gate_callee (f := 11) rfl ?_); refine goesL_ (some 45) rfl rfl Try.func11 (by kernel_rfl) rfl #[.agg #[.int .i64 x235000_2, .int .i64 x235001_2, .int .i64 x235002_2], .int .i64 (wrap64 (Int.tmod (rd l1 x12_2) 6)), .int .i64 1] rfl (by (try simp only [List.map_toArray, List.map_cons, List.map_nil]); first | done | rfl | (simp only [List.length_drop, List.length_take]; rfl)) ?_; (with_reducible refine (dem_Next.calls x235000_2 x235001_2 x235002_2 (wrap64 (Int.tmod (rd l1 x12_2) 6)) 1 t236 t237 t238 _ A20.out).mono ?_); rintro e w24 ⟨rfl, hb⟩; refine ⟨_, rfl, ?_⟩; have n0_ := Aside0.mk (blk_below (g := gb229) (o := .cells #[.int .i64 a0_0, .int .i64 a0_1, .int .i64 a0_2, .int .i64 a0_3, .slice A0_4 l0_4.length c0_4, .int .i64 a0_5, .int .i64 a0_6, .int .i64 a0_7, .int .i64 a0_8, .int .i64 a0_9, .int .i64 a0_10, .int .i64 a0_11, .int .i64 a0_12, .int .i64 a0_13, .int .i64 a0_14, .int .i64 a0_15, .int .i64 a0_16, .int .i64 a0_17, .int .i64 a0_18, .int .i64 a0_19, .int .i64 a0_20] 24 (0, 0)) (by (with_reducible repeat (first | refine blk_drewN ?_ _ | refine blk_drew ?_ | refine blk_alloc ?_ _)); exact BK229.out) hb); have n1_ := Aside0.mk (blk_below (g := gb234) (o := .cells #[.int .i64 x235000_2, .int .i64 x235001_2, .int .i64 x235002_2] 26 (0, 0)) (by (with_reducible repeat (first | refine blk_drewN ?_ _ | refine blk_drew ?_ | refine blk_alloc ?_ _)); exact BK234.out) hb); have n2_ := Aside0.mk (below_step (by repeat (first | (with_reducible first | exact HB.out | apply below_alloc | apply pw_below_drewN | apply below_drew1 | refine below_set ?_ GE229.out | refine below_set ?_ GE234.out) | exact HB.out)) hb); clear BK229; clear BK234; clear HB; have BK229 := n0_; have BK234 := n1_; have HB := n2_; clear n0_ n1_ n2_; (try clear hb); (try clear hb2); (try clear hk); (try clear hi)) | ((with_reducible refine gate_dst (N := 14) rfl ?_); (try (refine gate_guard (by rfl) ?_; dsimp only)); refine box_event ?hg (N := 14) ?hd (cs := #[.int .i64 0, .int .i64 0, .int .i64 0]) (t := 26) ?hr ?_; (case hd => rfl); (case hg => rfl); (case hr => first | (go_simp; done) | (go_simp; rfl)); intro gb239 hg w25 hbox hb; have n0_ := Aside0.mk (blk_below (g := gb229) (o := .cells #[.int .i64 a0_0, .int .i64 a0_1, .int .i64 a0_2, .int .i64 a0_3, .slice A0_4 l0_4.length c0_4, .int .i64 a0_5, .int .i64 a0_6, .int .i64 a0_7, .int .i64 a0_8, .int .i64 a0_9, .int .i64 a0_10, .int .i64 a0_11, .int .i64 a0_12, .int .i64 a0_13, .int .i64 a0_14, .int .i64 a0_15, .int .i64 a0_16, .int .i64 a0_17, .int .i64 a0_18, .int .i64 a0_19, .int .i64 a0_20] 24 (0, 0)) (by (with_reducible repeat (first | refine blk_drewN ?_ _ | refine blk_drew ?_ | refine blk_alloc ?_ _)); exact BK229.out) hb); have n1_ := Aside0.mk (blk_below (g := gb234) (o := .cells #[.int .i64 x235000_2, .int .i64 x235001_2, .int .i64 x235002_2] 26 (0, 0)) (by (with_reducible repeat (first | refine blk_drewN ?_ _ | refine blk_drew ?_ | refine blk_alloc ?_ _)); exact BK234.out) hb); have n2_ := Aside0.mk (below_step (by repeat (first | (with_reducible first | exact HB.out | apply below_alloc | apply pw_below_drewN | apply below_drew1 | refine below_set ?_ GE229.out | refine below_set ?_ GE234.out) | exact HB.out)) hb); have n3_ := Aside0.mk (hbox); have n4_ := Aside0.mk ((by rw [hg]; exact (below_size (by repeat (first | (with_reducible first | exact HB.out | apply below_alloc | apply pw_below_drewN | apply below_drew1 | refine below_set ?_ GE229.out | refine below_set ?_ GE234.out) | exact HB.out))) : w.heap.size ≤ gb239)); have n5_ := Aside0.mk ((by rw [hg]; exact (below_size (by repeat (first | (with_reducible first | exact HB.out | apply below_alloc | apply pw_below_drewN | apply below_drew1 | refine below_set ?_ GE229.out | refine below_set ?_ GE234.out) | exact HB.out))) : w.heap.size ≤ gb239)); have n6_ := Aside0.mk ((by rw [hg]; exact Nat.ne_of_lt (blk_lt (g := gb229) (o := .cells #[.int .i64 a0_0, .int .i64 a0_1, .int .i64 a0_2, .int .i64 a0_3, .slice A0_4 l0_4.length c0_4, .int .i64 a0_5, .int .i64 a0_6, .int .i64 a0_7, .int .i64 a0_8, .int .i64 a0_9, .int .i64 a0_10, .int .i64 a0_11, .int .i64 a0_12, .int .i64 a0_13, .int .i64 a0_14, .int .i64 a0_15, .int .i64 a0_16, .int .i64 a0_17, .int .i64 a0_18, .int .i64 a0_19, .int .i64 a0_20] 24 (0, 0)) (by (with_reducible repeat (first | refine blk_drewN ?_ _ | refine blk_drew ?_ | refine blk_alloc ?_ _)); exact BK229.out)) : gb229 ≠ gb239)); have n7_ := Aside0.mk ((by rw [hg]; exact Nat.ne_of_gt (blk_lt (g := gb229) (o := .cells #[.int .i64 a0_0, .int .i64 a0_1, .int .i64 a0_2, .int .i64 a0_3, .slice A0_4 l0_4.length c0_4, .int .i64 a0_5, .int .i64 a0_6, .int .i64 a0_7, .int .i64 a0_8, .int .i64 a0_9, .int .i64 a0_10, .int .i64 a0_11, .int .i64 a0_12, .int .i64 a0_13, .int .i64 a0_14, .int .i64 a0_15, .int .i64 a0_16, .int .i64 a0_17, .int .i64 a0_18, .int .i64 a0_19, .int .i64 a0_20] 24 (0, 0)) (by (with_reducible repeat (first | refine blk_drewN ?_ _ | refine blk_drew ?_ | refine blk_alloc ?_ _)); exact BK229.out)) : gb239 ≠ gb229)); have n8_ := Aside0.mk ((by rw [hg]; exact Nat.ne_of_lt (blk_lt (g := gb234) (o := .cells #[.int .i64 x235000_2, .int .i64 x235001_2, .int .i64 x235002_2] 26 (0, 0)) (by (with_reducible repeat (first | refine blk_drewN ?_ _ | refine blk_drew ?_ | refine blk_alloc ?_ _)); exact BK234.out)) : gb234 ≠ gb239)); have n9_ := Aside0.mk ((by rw [hg]; exact Nat.ne_of_gt (blk_lt (g := gb234) (o := .cells #[.int .i64 x235000_2, .int .i64 x235001_2, .int .i64 x235002_2] 26 (0, 0)) (by (with_reducible repeat (first | refine blk_drewN ?_ _ | refine blk_drew ?_ | refine blk_alloc ?_ _)); exact BK234.out)) : gb239 ≠ gb234)); clear BK229; clear BK234; clear HB; have BK229 := n0_; have BK234 := n1_; have HB := n2_; have BK239 := n3_; have GW239 := n4_; have GE239 := n5_; have NB229_239 := n6_; have NB239_229 := n7_; have NB234_239 := n8_; have NB239_234 := n9_; clear n0_ n1_ n2_ n3_ n4_ n5_ n6_ n7_ n8_ n9_; clear hb hbox hg; have hnb26 := NB239_229.out; have hnc26 := NB229_239.out; have hnb27 := NB239_234.out; have hnc27 := NB234_239.out; have hcz28_0 : w25.cell? ⟨gb239, 0, none⟩ = some (.int .i64 0) := (blk_cell BK239.out 0).trans rfl; have hcz28_1 : w25.cell? ⟨gb239, 1, none⟩ = some (.int .i64 0) := (blk_cell BK239.out 1).trans rfl; have hcz28_2 : w25.cell? ⟨gb239, 2, none⟩ = some (.int .i64 0) := (blk_cell BK239.out 2).trans rfl; have hfz28_0 := blk_frozen BK239.out 0; have hfz28_1 := blk_frozen BK239.out 1; have hfz28_2 := blk_frozen BK239.out 2))
        (try simp only [Act.put, List.setIfInBounds_toArray, List.set_cons_zero, List.set_cons_succ])
        go_cut [51] (fun v51 wc => ∃ (kq : Nat) (x51_20 : Bool), v51 = .bool x51_20 ∧ Aside0 (compositorlaw21_DemRuns.j2 kq l1 a2 a3 t230 x11_2 x12_2 x51_20 a0_0 a0_1 a0_2 a0_3 l0_4 a0_5 a0_6 a0_7 a0_8 a0_9 a0_10 a0_11 a0_12 a0_13 a0_14 a0_15 a0_16 a0_17 a0_18 a0_19 a0_20 x235000_2 x235001_2 x235002_2 t236 t237 t238 = some r) ∧ Aside0 (kq ≤ k2) ∧ Aside0 (wc.heap[gb229]? = some (.cells #[.int .i64 a0_0, .int .i64 a0_1, .int .i64 a0_2, .int .i64 a0_3, (.slice A0_4 l0_4.length c0_4), .int .i64 a0_5, .int .i64 a0_6, .int .i64 a0_7, .int .i64 a0_8, .int .i64 a0_9, .int .i64 a0_10, .int .i64 a0_11, .int .i64 a0_12, .int .i64 a0_13, .int .i64 a0_14, .int .i64 a0_15, .int .i64 a0_16, .int .i64 a0_17, .int .i64 a0_18, .int .i64 a0_19, .int .i64 a0_20] 24 (0, 0))) ∧ Aside0 (wc.heap[gb234]? = some (.cells #[.int .i64 x235000_2, .int .i64 x235001_2, .int .i64 x235002_2] 26 (0, 0))) ∧ Aside0 (wc.heap[gb239]? = some (.cells #[.int .i64 t236, .int .i64 t237, .int .i64 t238] 26 (0, 0))) ∧ Aside0 (Below w.heap.size w wc))
        case first => as_aux_lemma =>
         have H := HC21.out
         clear HC21
         by_cases c29 : (wrap64 (Int.tmod (rd l1 x12_2) 6)) = 2
         ·rw [if_pos c29] at H
          have c29b0 : ((wrap64 (Int.tmod (rd l1 x12_2) 6)) == 2) = true := beq_iff_eq.mpr c29
          have c29b1 : ((wrap64 (Int.tmod (rd l1 x12_2) 6)) != 2) = false := bne_eq_false_iff_eq.mpr c29
          (try (have c29b2 : ((IntKind.i64.wrap (Int.tmod (rd l1 x12_2) 6)) == 2) = true := by simp only [i64_w]; exact (beq_iff_eq.mpr c29)))
          (try (have c29b3 : ((IntKind.i64.wrap (Int.tmod (rd l1 x12_2) 6)) != 2) = false := by simp only [i64_w]; exact (bne_eq_false_iff_eq.mpr c29)))
          clear c29
          (first | rw [c29b0] | (simp only [i64_w, i32_w]; rw [c29b0]) | skip)
          have H' := Aside0.mk H
          clear H
          go_wp2
          go_meet
          case rel => exact ⟨_, (true), (by first | rfl | (simp; done) | (simp [*]; done)), H', ⟨by have := HJ5.out; have := HK2.out; first | omega | exact Nat.le_refl _⟩, ⟨by (with_reducible repeat (first | refine blk_drewN ?_ _ | refine blk_drew ?_ | refine blk_alloc ?_ _)); (try (refine blk_far ?_ NB229_239.out _)); (with_reducible repeat (first | refine blk_drewN ?_ _ | refine blk_drew ?_ | refine blk_alloc ?_ _)); (try (refine blk_far ?_ NB229_239.out _)); (with_reducible repeat (first | refine blk_drewN ?_ _ | refine blk_drew ?_ | refine blk_alloc ?_ _)); (try (refine blk_far ?_ NB229_239.out _)); (with_reducible repeat (first | refine blk_drewN ?_ _ | refine blk_drew ?_ | refine blk_alloc ?_ _)); exact BK229.out⟩, ⟨by (with_reducible repeat (first | refine blk_drewN ?_ _ | refine blk_drew ?_ | refine blk_alloc ?_ _)); (try (refine blk_far ?_ NB234_239.out _)); (with_reducible repeat (first | refine blk_drewN ?_ _ | refine blk_drew ?_ | refine blk_alloc ?_ _)); (try (refine blk_far ?_ NB234_239.out _)); (with_reducible repeat (first | refine blk_drewN ?_ _ | refine blk_drew ?_ | refine blk_alloc ?_ _)); (try (refine blk_far ?_ NB234_239.out _)); (with_reducible repeat (first | refine blk_drewN ?_ _ | refine blk_drew ?_ | refine blk_alloc ?_ _)); exact BK234.out⟩, ⟨by (with_reducible repeat (first | refine blk_drewN ?_ _ | refine blk_drew ?_ | refine blk_alloc ?_ _)); (try (refine blk_put (cs := #[.int .i64 t236, .int .i64 t237, .int .i64 0]) ?_ 2 _ rfl)); (with_reducible repeat (first | refine blk_drewN ?_ _ | refine blk_drew ?_ | refine blk_alloc ?_ _)); (try (refine blk_put (cs := #[.int .i64 t236, .int .i64 0, .int .i64 0]) ?_ 1 _ rfl)); (with_reducible repeat (first | refine blk_drewN ?_ _ | refine blk_drew ?_ | refine blk_alloc ?_ _)); (try (refine blk_put (cs := #[.int .i64 0, .int .i64 0, .int .i64 0]) ?_ 0 _ rfl)); (with_reducible repeat (first | refine blk_drewN ?_ _ | refine blk_drew ?_ | refine blk_alloc ?_ _)); exact BK239.out⟩, ⟨by repeat (first | (with_reducible first | exact HB.out | apply below_alloc | apply pw_below_drewN | apply below_drew1 | refine below_set ?_ GE229.out | refine below_set ?_ GE234.out | refine below_set ?_ GE239.out) | exact HB.out)⟩⟩
         ·rw [if_neg c29] at H
          have c29b0 : ((wrap64 (Int.tmod (rd l1 x12_2) 6)) == 2) = false := beq_eq_false_iff_ne.mpr c29
          have c29b1 : ((wrap64 (Int.tmod (rd l1 x12_2) 6)) != 2) = true := bne_iff_ne.mpr c29
          (try (have c29b2 : ((IntKind.i64.wrap (Int.tmod (rd l1 x12_2) 6)) == 2) = false := by simp only [i64_w]; exact (beq_eq_false_iff_ne.mpr c29)))
          (try (have c29b3 : ((IntKind.i64.wrap (Int.tmod (rd l1 x12_2) 6)) != 2) = true := by simp only [i64_w]; exact (bne_iff_ne.mpr c29)))
          (first | rw [c29b0] | (simp only [i64_w, i32_w]; rw [c29b0]) | skip)
          have H' := Aside0.mk H
          clear H
          go_wp2
          go_meet
          case rel => exact ⟨_, (((wrap64 (Int.tmod (rd l1 x12_2) 6)) == 3)), (by first | rfl | (simp; done) | (simp [*]; done)), H', ⟨by have := HJ5.out; have := HK2.out; first | omega | exact Nat.le_refl _⟩, ⟨by (with_reducible repeat (first | refine blk_drewN ?_ _ | refine blk_drew ?_ | refine blk_alloc ?_ _)); (try (refine blk_far ?_ NB229_239.out _)); (with_reducible repeat (first | refine blk_drewN ?_ _ | refine blk_drew ?_ | refine blk_alloc ?_ _)); (try (refine blk_far ?_ NB229_239.out _)); (with_reducible repeat (first | refine blk_drewN ?_ _ | refine blk_drew ?_ | refine blk_alloc ?_ _)); (try (refine blk_far ?_ NB229_239.out _)); (with_reducible repeat (first | refine blk_drewN ?_ _ | refine blk_drew ?_ | refine blk_alloc ?_ _)); exact BK229.out⟩, ⟨by (with_reducible repeat (first | refine blk_drewN ?_ _ | refine blk_drew ?_ | refine blk_alloc ?_ _)); (try (refine blk_far ?_ NB234_239.out _)); (with_reducible repeat (first | refine blk_drewN ?_ _ | refine blk_drew ?_ | refine blk_alloc ?_ _)); (try (refine blk_far ?_ NB234_239.out _)); (with_reducible repeat (first | refine blk_drewN ?_ _ | refine blk_drew ?_ | refine blk_alloc ?_ _)); (try (refine blk_far ?_ NB234_239.out _)); (with_reducible repeat (first | refine blk_drewN ?_ _ | refine blk_drew ?_ | refine blk_alloc ?_ _)); exact BK234.out⟩, ⟨by (with_reducible repeat (first | refine blk_drewN ?_ _ | refine blk_drew ?_ | refine blk_alloc ?_ _)); (try (refine blk_put (cs := #[.int .i64 t236, .int .i64 t237, .int .i64 0]) ?_ 2 _ rfl)); (with_reducible repeat (first | refine blk_drewN ?_ _ | refine blk_drew ?_ | refine blk_alloc ?_ _)); (try (refine blk_put (cs := #[.int .i64 t236, .int .i64 0, .int .i64 0]) ?_ 1 _ rfl)); (with_reducible repeat (first | refine blk_drewN ?_ _ | refine blk_drew ?_ | refine blk_alloc ?_ _)); (try (refine blk_put (cs := #[.int .i64 0, .int .i64 0, .int .i64 0]) ?_ 0 _ rfl)); (with_reducible repeat (first | refine blk_drewN ?_ _ | refine blk_drew ?_ | refine blk_alloc ?_ _)); exact BK239.out⟩, ⟨by repeat (first | (with_reducible first | exact HB.out | apply below_alloc | apply pw_below_drewN | apply below_drew1 | refine below_set ?_ GE229.out | refine below_set ?_ GE234.out | refine below_set ?_ GE239.out) | exact HB.out)⟩⟩
        case rest => as_aux_lemma =>
         clear HC21
         try clear c1
         try clear c2
         try clear p2
         try clear q2
         try clear hx2
         try clear c5
         try clear p6
         try clear c8
         try clear c9
         try clear c9b0
         try clear c9b1
         try clear c11
         try clear c12
         try clear c16
         try clear c18
         try clear c18b0
         try clear c19
         try clear c19b0
         try clear c22
         try clear p23
         try clear q23
         try clear hx23
         try clear c26
         try clear c27
         try clear c29
         try clear c29b0
         try clear c29b1
         try clear c29b2
         try clear hcz10_0
         try clear hcz10_1
         try clear hcz10_10
         try clear hcz10_11
         try clear hcz10_12
         try clear hcz10_13
         try clear hcz10_14
         try clear hcz10_15
         try clear hcz10_16
         try clear hcz10_17
         try clear hcz10_18
         try clear hcz10_19
         try clear hcz10_2
         try clear hcz10_20
         try clear hcz10_3
         try clear hcz10_4
         try clear hcz10_5
         try clear hcz10_6
         try clear hcz10_7
         try clear hcz10_8
         try clear hcz10_9
         try clear hcz11_0
         try clear hcz11_1
         try clear hcz11_10
         try clear hcz11_11
         try clear hcz11_12
         try clear hcz11_13
         try clear hcz11_14
         try clear hcz11_15
         try clear hcz11_16
         try clear hcz11_17
         try clear hcz11_18
         try clear hcz11_19
         try clear hcz11_2
         try clear hcz11_20
         try clear hcz11_3
         try clear hcz11_4
         try clear hcz11_5
         try clear hcz11_6
         try clear hcz11_7
         try clear hcz11_8
         try clear hcz11_9
         try clear hcz17_0
         try clear hcz17_1
         try clear hcz17_2
         try clear hcz23_0
         try clear hcz23_1
         try clear hcz23_2
         try clear hcz28_0
         try clear hcz28_1
         try clear hcz28_2
         try clear hfz10_0
         try clear hfz10_1
         try clear hfz10_10
         try clear hfz10_11
         try clear hfz10_12
         try clear hfz10_13
         try clear hfz10_14
         try clear hfz10_15
         try clear hfz10_16
         try clear hfz10_17
         try clear hfz10_18
         try clear hfz10_19
         try clear hfz10_2
         try clear hfz10_20
         try clear hfz10_3
         try clear hfz10_4
         try clear hfz10_5
         try clear hfz10_6
         try clear hfz10_7
         try clear hfz10_8
         try clear hfz10_9
         try clear hfz11_0
         try clear hfz11_1
         try clear hfz11_10
         try clear hfz11_11
         try clear hfz11_12
         try clear hfz11_13
         try clear hfz11_14
         try clear hfz11_15
         try clear hfz11_16
         try clear hfz11_17
         try clear hfz11_18
         try clear hfz11_19
         try clear hfz11_2
         try clear hfz11_20
         try clear hfz11_3
         try clear hfz11_4
         try clear hfz11_5
         try clear hfz11_6
         try clear hfz11_7
         try clear hfz11_8
         try clear hfz11_9
         try clear hfz17_0
         try clear hfz17_1
         try clear hfz17_2
         try clear hfz23_0
         try clear hfz23_1
         try clear hfz23_2
         try clear hfz28_0
         try clear hfz28_1
         try clear hfz28_2
         try clear hx235_0
         try clear p2
         try clear p235
         try clear q235
         obtain ⟨kq, x51_20, rfl, HA, HJ20, BK229, BK234, BK239, HB⟩ := hcut
         cases kq with
         | zero => exact absurd HA.out (by simp [compositorlaw21_DemRuns.j2])
         | succ kj20 =>
          have H := HA.out
          clear HA
          simp only [compositorlaw21_DemRuns.j2] at H
          have HC30 := Aside0.mk H
          clear H
          go_upto_if 51 with (fail)
          go_cut [11] (fun v11 wc => ∃ (kq : Nat) (x11_29 : Int), v11 = .int .i64 x11_29 ∧ Aside0 (compositorlaw21_DemRuns.j3 kq l1 a2 a3 t230 x11_29 x12_2 a0_0 a0_1 a0_2 a0_3 l0_4 a0_5 a0_6 a0_7 a0_8 a0_9 a0_10 a0_11 a0_12 a0_13 a0_14 a0_15 a0_16 a0_17 a0_18 a0_19 a0_20 x235000_2 x235001_2 x235002_2 t236 t237 t238 = some r) ∧ Aside0 (kq ≤ kj20) ∧ Aside0 (wc.heap[gb229]? = some (.cells #[.int .i64 a0_0, .int .i64 a0_1, .int .i64 a0_2, .int .i64 a0_3, (.slice A0_4 l0_4.length c0_4), .int .i64 a0_5, .int .i64 a0_6, .int .i64 a0_7, .int .i64 a0_8, .int .i64 a0_9, .int .i64 a0_10, .int .i64 a0_11, .int .i64 a0_12, .int .i64 a0_13, .int .i64 a0_14, .int .i64 a0_15, .int .i64 a0_16, .int .i64 a0_17, .int .i64 a0_18, .int .i64 a0_19, .int .i64 a0_20] 24 (0, 0))) ∧ Aside0 (wc.heap[gb234]? = some (.cells #[.int .i64 x235000_2, .int .i64 x235001_2, .int .i64 x235002_2] 26 (0, 0))) ∧ Aside0 (wc.heap[gb239]? = some (.cells #[.int .i64 t236, .int .i64 t237, .int .i64 t238] 26 (0, 0))) ∧ Aside0 (Below w.heap.size w wc))
          case first => as_aux_lemma =>
           have H := HC30.out
           clear HC30
           by_cases c31 : x51_20 = true
           ·subst c31
            have H1 : (compositorlaw21_DemRuns.j3 kj20 l1 a2 a3 t230 (wrap64 (x11_2 + 1)) x12_2 a0_0 a0_1 a0_2 a0_3 l0_4 a0_5 a0_6 a0_7 a0_8 a0_9 a0_10 a0_11 a0_12 a0_13 a0_14 a0_15 a0_16 a0_17 a0_18 a0_19 a0_20 x235000_2 x235001_2 x235002_2 t236 t237 t238) = some r := by rw [if_pos rfl] at H; exact H
            clear H
            have H := H1
            clear H1
            have H' := Aside0.mk H
            clear H
            go_wp2
            go_meet
            case rel => exact ⟨_, (wrap64 (x11_2 + 1)), (by first | rfl | (simp; done) | (simp [*]; done)), H', ⟨by have := HJ5.out; have := HK2.out; have := HJ20.out; first | omega | exact Nat.le_refl _⟩, ⟨by (with_reducible repeat (first | refine blk_drewN ?_ _ | refine blk_drew ?_ | refine blk_alloc ?_ _)); exact BK229.out⟩, ⟨by (with_reducible repeat (first | refine blk_drewN ?_ _ | refine blk_drew ?_ | refine blk_alloc ?_ _)); exact BK234.out⟩, ⟨by (with_reducible repeat (first | refine blk_drewN ?_ _ | refine blk_drew ?_ | refine blk_alloc ?_ _)); exact BK239.out⟩, ⟨by repeat (first | (with_reducible first | exact HB.out | apply below_alloc | apply pw_below_drewN | apply below_drew1 | refine below_set ?_ GE229.out | refine below_set ?_ GE234.out | refine below_set ?_ GE239.out) | exact HB.out)⟩⟩
           ·replace c31 := Bool.eq_false_iff.mpr c31
            subst c31
            have H1 : (compositorlaw21_DemRuns.j3 kj20 l1 a2 a3 t230 0 x12_2 a0_0 a0_1 a0_2 a0_3 l0_4 a0_5 a0_6 a0_7 a0_8 a0_9 a0_10 a0_11 a0_12 a0_13 a0_14 a0_15 a0_16 a0_17 a0_18 a0_19 a0_20 x235000_2 x235001_2 x235002_2 t236 t237 t238) = some r := by rw [if_neg (show ¬ (false = true) by decide)] at H; exact H
            clear H
            have H := H1
            clear H1
            have H' := Aside0.mk H
            clear H
            go_wp2
            go_meet
            case rel => exact ⟨_, (0), (by first | rfl | (simp; done) | (simp [*]; done)), H', ⟨by have := HJ5.out; have := HK2.out; have := HJ20.out; first | omega | exact Nat.le_refl _⟩, ⟨by (with_reducible repeat (first | refine blk_drewN ?_ _ | refine blk_drew ?_ | refine blk_alloc ?_ _)); exact BK229.out⟩, ⟨by (with_reducible repeat (first | refine blk_drewN ?_ _ | refine blk_drew ?_ | refine blk_alloc ?_ _)); exact BK234.out⟩, ⟨by (with_reducible repeat (first | refine blk_drewN ?_ _ | refine blk_drew ?_ | refine blk_alloc ?_ _)); exact BK239.out⟩, ⟨by repeat (first | (with_reducible first | exact HB.out | apply below_alloc | apply pw_below_drewN | apply below_drew1 | refine below_set ?_ GE229.out | refine below_set ?_ GE234.out | refine below_set ?_ GE239.out) | exact HB.out)⟩⟩
          case rest => as_aux_lemma =>
           clear HC30
           try clear c1
           try clear c2
           try clear p2
           try clear q2
           try clear hx2
           try clear c3
           try clear c5
           try clear p6
           try clear c8
           try clear c9
           try clear c9b0
           try clear c9b1
           try clear c11
           try clear c12
           try clear c16
           try clear c18
           try clear c18b0
           try clear c19
           try clear c19b0
           try clear c22
           try clear p23
           try clear q23
           try clear hx23
           try clear c26
           try clear c27
           try clear c29
           try clear c29b0
           try clear c29b1
           try clear c29b2
           try clear c31
           try clear hcz10_0
           try clear hcz10_1
           try clear hcz10_10
           try clear hcz10_11
           try clear hcz10_12
           try clear hcz10_13
           try clear hcz10_14
           try clear hcz10_15
           try clear hcz10_16
           try clear hcz10_17
           try clear hcz10_18
           try clear hcz10_19
           try clear hcz10_2
           try clear hcz10_20
           try clear hcz10_3
           try clear hcz10_4
           try clear hcz10_5
           try clear hcz10_6
           try clear hcz10_7
           try clear hcz10_8
           try clear hcz10_9
           try clear hcz11_0
           try clear hcz11_1
           try clear hcz11_10
           try clear hcz11_11
           try clear hcz11_12
           try clear hcz11_13
           try clear hcz11_14
           try clear hcz11_15
           try clear hcz11_16
           try clear hcz11_17
           try clear hcz11_18
           try clear hcz11_19
           try clear hcz11_2
           try clear hcz11_20
           try clear hcz11_3
           try clear hcz11_4
           try clear hcz11_5
           try clear hcz11_6
           try clear hcz11_7
           try clear hcz11_8
           try clear hcz11_9
           try clear hcz17_0
           try clear hcz17_1
           try clear hcz17_2
           try clear hcz23_0
           try clear hcz23_1
           try clear hcz23_2
           try clear hcz28_0
           try clear hcz28_1
           try clear hcz28_2
           try clear hfz10_0
           try clear hfz10_1
           try clear hfz10_10
           try clear hfz10_11
           try clear hfz10_12
           try clear hfz10_13
           try clear hfz10_14
           try clear hfz10_15
           try clear hfz10_16
           try clear hfz10_17
           try clear hfz10_18
           try clear hfz10_19
           try clear hfz10_2
           try clear hfz10_20
           try clear hfz10_3
           try clear hfz10_4
           try clear hfz10_5
           try clear hfz10_6
           try clear hfz10_7
           try clear hfz10_8
           try clear hfz10_9
           try clear hfz11_0
           try clear hfz11_1
           try clear hfz11_10
           try clear hfz11_11
           try clear hfz11_12
           try clear hfz11_13
           try clear hfz11_14
           try clear hfz11_15
           try clear hfz11_16
           try clear hfz11_17
           try clear hfz11_18
           try clear hfz11_19
           try clear hfz11_2
           try clear hfz11_20
           try clear hfz11_3
           try clear hfz11_4
           try clear hfz11_5
           try clear hfz11_6
           try clear hfz11_7
           try clear hfz11_8
           try clear hfz11_9
           try clear hfz17_0
           try clear hfz17_1
           try clear hfz17_2
           try clear hfz23_0
           try clear hfz23_1
           try clear hfz23_2
           try clear hfz28_0
           try clear hfz28_1
           try clear hfz28_2
           try clear hx235_0
           try clear p2
           try clear p23
           try clear p235
           try clear p6
           try clear q2
           try clear q23
           try clear q235
           obtain ⟨kq, x11_29, rfl, HA, HJ29, BK229, BK234, BK239, HB⟩ := hcut
           cases kq with
           | zero => exact absurd HA.out (by simp [compositorlaw21_DemRuns.j3])
           | succ kj29 =>
            have H := HA.out
            clear HA
            simp only [compositorlaw21_DemRuns.j3] at H
            replace H := Option.bind_eq_some_iff.mp H
            obtain ⟨t240, A320, H⟩ := H
            replace H : ((dem_Pair.f kj29 a0_0 a0_1 a0_2 a0_3 l0_4 a0_5 a0_6 a0_7 a0_8 a0_9 a0_10 a0_11 a0_12 a0_13 a0_14 a0_15 a0_16 a0_17 a0_18 a0_19 a0_20 x235000_2 x235001_2 x235002_2 t236 t237 t238 (wrap64 ((wrap64 (a2)) + (wrap64 (a3))))).bind fun t241 => ((dem_Pair.f kj29 a0_0 a0_1 a0_2 a0_3 l0_4 a0_5 a0_6 a0_7 a0_8 a0_9 a0_10 a0_11 a0_12 a0_13 a0_14 a0_15 a0_16 a0_17 a0_18 a0_19 a0_20 x235000_2 x235001_2 x235002_2 t236 t237 (wrap64 (t238 + 1)) (wrap64 (a2))).bind fun t243 => (if t238 = (mn x11_29 4) then (if t240 > t241 then (none) else (if t240 > t243 then (none) else (if t240 < 0 then (none) else (compositorlaw21_DemRuns.l0 kj29 l1 a2 a3 t230 x11_29 (wrap64 (x12_2 + 1)) a0_0 a0_1 a0_2 a0_3 l0_4 a0_5 a0_6 a0_7 a0_8 a0_9 a0_10 a0_11 a0_12 a0_13 a0_14 a0_15 a0_16 a0_17 a0_18 a0_19 a0_20 t236 t237 t238)))) else (none)))) = some r := H
            have A32 := Aside0.mk A320
            clear A320
            replace H := Option.bind_eq_some_iff.mp H
            obtain ⟨t241, A330, H⟩ := H
            replace H : ((dem_Pair.f kj29 a0_0 a0_1 a0_2 a0_3 l0_4 a0_5 a0_6 a0_7 a0_8 a0_9 a0_10 a0_11 a0_12 a0_13 a0_14 a0_15 a0_16 a0_17 a0_18 a0_19 a0_20 x235000_2 x235001_2 x235002_2 t236 t237 (wrap64 (t238 + 1)) (wrap64 (a2))).bind fun t243 => (if t238 = (mn x11_29 4) then (if t240 > t241 then (none) else (if t240 > t243 then (none) else (if t240 < 0 then (none) else (compositorlaw21_DemRuns.l0 kj29 l1 a2 a3 t230 x11_29 (wrap64 (x12_2 + 1)) a0_0 a0_1 a0_2 a0_3 l0_4 a0_5 a0_6 a0_7 a0_8 a0_9 a0_10 a0_11 a0_12 a0_13 a0_14 a0_15 a0_16 a0_17 a0_18 a0_19 a0_20 t236 t237 t238)))) else (none))) = some r := H
            have A33 := Aside0.mk A330
            clear A330
            replace H := Option.bind_eq_some_iff.mp H
            obtain ⟨t243, A340, H⟩ := H
            replace H : (if t238 = (mn x11_29 4) then (if t240 > t241 then (none) else (if t240 > t243 then (none) else (if t240 < 0 then (none) else (compositorlaw21_DemRuns.l0 kj29 l1 a2 a3 t230 x11_29 (wrap64 (x12_2 + 1)) a0_0 a0_1 a0_2 a0_3 l0_4 a0_5 a0_6 a0_7 a0_8 a0_9 a0_10 a0_11 a0_12 a0_13 a0_14 a0_15 a0_16 a0_17 a0_18 a0_19 a0_20 t236 t237 t238)))) else (none)) = some r := H
            have A34 := Aside0.mk A340
            clear A340
            obtain ⟨ji35, hji35⟩ : ∃ j_ : Int, (mn x11_29 4) = j_ := ⟨_, rfl⟩
            replace H : (if t238 = (ji35) then (if t240 > t241 then (none) else (if t240 > t243 then (none) else (if t240 < 0 then (none) else (compositorlaw21_DemRuns.l0 kj29 l1 a2 a3 t230 x11_29 (wrap64 (x12_2 + 1)) a0_0 a0_1 a0_2 a0_3 l0_4 a0_5 a0_6 a0_7 a0_8 a0_9 a0_10 a0_11 a0_12 a0_13 a0_14 a0_15 a0_16 a0_17 a0_18 a0_19 a0_20 t236 t237 t238)))) else (none)) = some r := by first | (rw [hji35] at H; exact H) | (simp only [hji35] at H ⊢; exact H)
            (try rw [hji35] at A32)
            (try rw [hji35] at A33)
            (try rw [hji35] at A34)
            have hji35_ : (if 4 < x11_29 then 4 else x11_29) = ji35 := hji35
            by_cases c36 : t238 = (ji35)
            ·rw [if_pos c36] at H
             have c36b0 : (t238 == (ji35)) = true := beq_iff_eq.mpr c36
             have c36b1 : (t238 != (ji35)) = false := bne_eq_false_iff_eq.mpr c36
             clear c36
             by_cases c37 : t240 > t241
             ·rw [if_pos c37] at H
              exact absurd H (by simp)
             ·rw [if_neg c37] at H
              have c37b0 : decide (t241 < t240) = false := decide_eq_false c37
              clear c37
              by_cases c38 : t240 > t243
              ·rw [if_pos c38] at H
               exact absurd H (by simp)
              ·rw [if_neg c38] at H
               have c38b0 : decide (t243 < t240) = false := decide_eq_false c38
               clear c38
               by_cases c39 : t240 < 0
               ·rw [if_pos c39] at H
                exact absurd H (by simp)
               ·rw [if_neg c39] at H
                have c39b0 : decide (t240 < 0) = false := decide_eq_false c39
                clear c39
                have H' := Aside0.mk H
                clear H
                have hnb40 := NB229_234.out
                have hnc40 := NB234_229.out
                have hnb41 := NB229_239.out
                have hnc41 := NB239_229.out
                have hcz42_0 := blk_cell BK229.out
                have hfz42_0 := blk_frozen BK229.out
                have hnb43 := NB234_239.out
                have hnc43 := NB239_234.out
                have hcz44_0 : wc.cell? ⟨gb234, 0, none⟩ = some (.int .i64 x235000_2) := (blk_cell BK234.out 0).trans rfl
                have hcz44_1 : wc.cell? ⟨gb234, 1, none⟩ = some (.int .i64 x235001_2) := (blk_cell BK234.out 1).trans rfl
                have hcz44_2 : wc.cell? ⟨gb234, 2, none⟩ = some (.int .i64 x235002_2) := (blk_cell BK234.out 2).trans rfl
                have hfz44_0 := blk_frozen BK234.out 0
                have hfz44_1 := blk_frozen BK234.out 1
                have hfz44_2 := blk_frozen BK234.out 2
                have hcz45_0 : wc.cell? ⟨gb239, 0, none⟩ = some (.int .i64 t236) := (blk_cell BK239.out 0).trans rfl
                have hcz45_1 : wc.cell? ⟨gb239, 1, none⟩ = some (.int .i64 t237) := (blk_cell BK239.out 1).trans rfl
                have hcz45_2 : wc.cell? ⟨gb239, 2, none⟩ = some (.int .i64 t238) := (blk_cell BK239.out 2).trans rfl
                have hfz45_0 := blk_frozen BK239.out 0
                have hfz45_1 := blk_frozen BK239.out 1
                have hfz45_2 := blk_frozen BK239.out 2
                have tk_ : True := trivial
                go_wp2_with (first | ((with_reducible refine gate_load (T := 24) rfl ?_); refine load_row_event (by first | rfl | (go_simp; done)) 24 _ rfl gb229 rfl 24 _ (0, 0) _ (by (with_reducible repeat (first | refine blk_drewN ?_ _ | refine blk_drew ?_ | refine blk_alloc ?_ _)); first | exact BK229.out | exact (blk_far BK229.out NB229_234.out _) | exact (blk_far BK229.out NB229_239.out _) | exact (blk_far BK229.out NB229_242.out _)) hu24 rfl (by kernel_rfl) ?_) | ((with_reducible refine gate_load (T := 26) rfl ?_); refine load_row_event (by first | rfl | (go_simp; done)) 26 _ rfl gb234 rfl 26 _ (0, 0) _ (by (with_reducible repeat (first | refine blk_drewN ?_ _ | refine blk_drew ?_ | refine blk_alloc ?_ _)); first | exact BK234.out | exact (blk_far BK234.out NB234_229.out _) | exact (blk_far BK234.out NB234_239.out _) | exact (blk_far BK234.out NB234_242.out _)) hu26 rfl (by kernel_rfl) ?_) | ((with_reducible refine gate_load (T := 26) rfl ?_); refine load_row_event (by first | rfl | (go_simp; done)) 26 _ rfl gb239 rfl 26 _ (0, 0) _ (by (with_reducible repeat (first | refine blk_drewN ?_ _ | refine blk_drew ?_ | refine blk_alloc ?_ _)); first | exact BK239.out | exact (blk_far BK239.out NB239_229.out _) | exact (blk_far BK239.out NB239_234.out _) | exact (blk_far BK239.out NB239_242.out _)) hu26 rfl (by kernel_rfl) ?_) | ((with_reducible refine gate_load (T := 26) rfl ?_); refine load_row_event (by first | rfl | (go_simp; done)) 26 _ rfl gb242 rfl 26 _ (0, 0) _ (by (with_reducible repeat (first | refine blk_drewN ?_ _ | refine blk_drew ?_ | refine blk_alloc ?_ _)); first | exact BK242.out | exact (blk_far BK242.out NB242_229.out _) | exact (blk_far BK242.out NB242_234.out _) | exact (blk_far BK242.out NB242_239.out _)) hu26 rfl (by kernel_rfl) ?_) | ((with_reducible refine gate_store (t := 24) rfl ?_); refine store_row_event (base := w.heap.size) rfl rfl 24 _ _ rfl (g := gb229) (by rfl) (by rfl) (by (with_reducible repeat (first | refine blk_drewN ?_ _ | refine blk_drew ?_ | refine blk_alloc ?_ _)); exact BK229.out) (by kernel_rfl) (by rfl) (by rfl) GE229.out ?_; intro ws_ hs_ hk_ hb_; have n0_ := Aside0.mk (Below.trans (by repeat (first | (with_reducible first | exact HB.out | apply below_alloc | apply pw_below_drewN | apply below_drew1) | exact HB.out)) hb_); clear HB; have HB := n0_; clear n0_; clear BK229; have BK229 := Aside0.mk hs_; clear hs_; (try (have z_ := Aside0.mk (blk_else BK234.out NB234_229.out hk_); clear BK234; have BK234 := z_; clear z_)); (try (have z_ := Aside0.mk (blk_else BK239.out NB239_229.out hk_); clear BK239; have BK239 := z_; clear z_)); (try (have z_ := Aside0.mk (blk_else BK242.out NB242_229.out hk_); clear BK242; have BK242 := z_; clear z_)); have hxs_ := blk_cell BK229.out; have hys_ := blk_frozen BK229.out; clear hk_ hb_) | ((with_reducible refine gate_store (t := 26) rfl ?_); refine store_row_event (base := w.heap.size) rfl rfl 26 _ _ rfl (g := gb234) (by rfl) (by rfl) (by (with_reducible repeat (first | refine blk_drewN ?_ _ | refine blk_drew ?_ | refine blk_alloc ?_ _)); exact BK234.out) (by kernel_rfl) (by rfl) (by rfl) GE234.out ?_; intro ws_ hs_ hk_ hb_; have n0_ := Aside0.mk (Below.trans (by repeat (first | (with_reducible first | exact HB.out | apply below_alloc | apply pw_below_drewN | apply below_drew1) | exact HB.out)) hb_); clear HB; have HB := n0_; clear n0_; clear BK234; have BK234 := Aside0.mk hs_; clear hs_; (try (have z_ := Aside0.mk (blk_else BK229.out NB229_234.out hk_); clear BK229; have BK229 := z_; clear z_)); (try (have z_ := Aside0.mk (blk_else BK239.out NB239_234.out hk_); clear BK239; have BK239 := z_; clear z_)); (try (have z_ := Aside0.mk (blk_else BK242.out NB242_234.out hk_); clear BK242; have BK242 := z_; clear z_)); have hxs_ := blk_cell BK234.out; have hys_ := blk_frozen BK234.out; clear hk_ hb_) | ((with_reducible refine gate_store (t := 26) rfl ?_); refine store_row_event (base := w.heap.size) rfl rfl 26 _ _ rfl (g := gb239) (by rfl) (by rfl) (by (with_reducible repeat (first | refine blk_drewN ?_ _ | refine blk_drew ?_ | refine blk_alloc ?_ _)); exact BK239.out) (by kernel_rfl) (by rfl) (by rfl) GE239.out ?_; intro ws_ hs_ hk_ hb_; have n0_ := Aside0.mk (Below.trans (by repeat (first | (with_reducible first | exact HB.out | apply below_alloc | apply pw_below_drewN | apply below_drew1) | exact HB.out)) hb_); clear HB; have HB := n0_; clear n0_; clear BK239; have BK239 := Aside0.mk hs_; clear hs_; (try (have z_ := Aside0.mk (blk_else BK229.out NB229_239.out hk_); clear BK229; have BK229 := z_; clear z_)); (try (have z_ := Aside0.mk (blk_else BK234.out NB234_239.out hk_); clear BK234; have BK234 := z_; clear z_)); (try (have z_ := Aside0.mk (blk_else BK242.out NB242_239.out hk_); clear BK242; have BK242 := z_; clear z_)); have hxs_ := blk_cell BK239.out; have hys_ := blk_frozen BK239.out; clear hk_ hb_) | ((with_reducible refine gate_store (t := 26) rfl ?_); refine store_row_event (base := w.heap.size) rfl rfl 26 _ _ rfl (g := gb242) (by rfl) (by rfl) (by (with_reducible repeat (first | refine blk_drewN ?_ _ | refine blk_drew ?_ | refine blk_alloc ?_ _)); exact BK242.out) (by kernel_rfl) (by rfl) (by rfl) GE242.out ?_; intro ws_ hs_ hk_ hb_; have n0_ := Aside0.mk (Below.trans (by repeat (first | (with_reducible first | exact HB.out | apply below_alloc | apply pw_below_drewN | apply below_drew1) | exact HB.out)) hb_); clear HB; have HB := n0_; clear n0_; clear BK242; have BK242 := Aside0.mk hs_; clear hs_; (try (have z_ := Aside0.mk (blk_else BK229.out NB229_242.out hk_); clear BK229; have BK229 := z_; clear z_)); (try (have z_ := Aside0.mk (blk_else BK234.out NB234_242.out hk_); clear BK234; have BK234 := z_; clear z_)); (try (have z_ := Aside0.mk (blk_else BK239.out NB239_242.out hk_); clear BK239; have BK239 := z_; clear z_)); have hxs_ := blk_cell BK242.out; have hys_ := blk_frozen BK242.out; clear hk_ hb_) | (go_at_call 13; clear tk_; (with_reducible refine (dem_Pair.calls kj29 a0_0 a0_1 a0_2 a0_3 _ _ l0_4 a0_5 a0_6 a0_7 a0_8 a0_9 a0_10 a0_11 a0_12 a0_13 a0_14 a0_15 a0_16 a0_17 a0_18 a0_19 a0_20 x235000_2 x235001_2 x235002_2 t236 t237 t238 (wrap64 (a2)) t240 _ ?side1 ?side2 A32.out).mono ?_); (case side1 => repeat (first | exact (Kd.C_below HR0_4.out HB.out) | (with_reducible refine Kd.C_alloc ?_ _) | (with_reducible refine Kd.C_drewN ?_ _) | (with_reducible refine Kd.C_drew ?_))); (case side2 => exact HC0_4.out); rintro e w46 ⟨rfl, hb⟩; have n0_ := Aside0.mk (blk_below (g := gb229) (o := .cells #[.int .i64 a0_0, .int .i64 a0_1, .int .i64 a0_2, .int .i64 a0_3, .slice A0_4 l0_4.length c0_4, .int .i64 a0_5, .int .i64 a0_6, .int .i64 a0_7, .int .i64 a0_8, .int .i64 a0_9, .int .i64 a0_10, .int .i64 a0_11, .int .i64 a0_12, .int .i64 a0_13, .int .i64 a0_14, .int .i64 a0_15, .int .i64 a0_16, .int .i64 a0_17, .int .i64 a0_18, .int .i64 a0_19, .int .i64 a0_20] 24 (0, 0)) (by (with_reducible repeat (first | refine blk_drewN ?_ _ | refine blk_drew ?_ | refine blk_alloc ?_ _)); exact BK229.out) hb); have n1_ := Aside0.mk (blk_below (g := gb234) (o := .cells #[.int .i64 x235000_2, .int .i64 x235001_2, .int .i64 x235002_2] 26 (0, 0)) (by (with_reducible repeat (first | refine blk_drewN ?_ _ | refine blk_drew ?_ | refine blk_alloc ?_ _)); exact BK234.out) hb); have n2_ := Aside0.mk (blk_below (g := gb239) (o := .cells #[.int .i64 t236, .int .i64 t237, .int .i64 t238] 26 (0, 0)) (by (with_reducible repeat (first | refine blk_drewN ?_ _ | refine blk_drew ?_ | refine blk_alloc ?_ _)); exact BK239.out) hb); have n3_ := Aside0.mk (below_step (by repeat (first | (with_reducible first | exact HB.out | apply below_alloc | apply pw_below_drewN | apply below_drew1 | refine below_set ?_ GE229.out | refine below_set ?_ GE234.out | refine below_set ?_ GE239.out) | exact HB.out)) hb); clear BK229; clear BK234; clear BK239; clear HB; have BK229 := n0_; have BK234 := n1_; have BK239 := n2_; have HB := n3_; clear n0_ n1_ n2_ n3_; (try clear hb); (try clear hb2); (try clear hk); (try clear hi); have hcz47_0 := blk_cell BK229.out; have hfz47_0 := blk_frozen BK229.out; have hcz48_0 : w46.cell? ⟨gb234, 0, none⟩ = some (.int .i64 x235000_2) := (blk_cell BK234.out 0).trans rfl; have hcz48_1 : w46.cell? ⟨gb234, 1, none⟩ = some (.int .i64 x235001_2) := (blk_cell BK234.out 1).trans rfl; have hcz48_2 : w46.cell? ⟨gb234, 2, none⟩ = some (.int .i64 x235002_2) := (blk_cell BK234.out 2).trans rfl; have hfz48_0 := blk_frozen BK234.out 0; have hfz48_1 := blk_frozen BK234.out 1; have hfz48_2 := blk_frozen BK234.out 2; have hcz49_0 : w46.cell? ⟨gb239, 0, none⟩ = some (.int .i64 t236) := (blk_cell BK239.out 0).trans rfl; have hcz49_1 : w46.cell? ⟨gb239, 1, none⟩ = some (.int .i64 t237) := (blk_cell BK239.out 1).trans rfl; have hcz49_2 : w46.cell? ⟨gb239, 2, none⟩ = some (.int .i64 t238) := (blk_cell BK239.out 2).trans rfl; have hfz49_0 := blk_frozen BK239.out 0; have hfz49_1 := blk_frozen BK239.out 1; have hfz49_2 := blk_frozen BK239.out 2))
                as_aux_lemma =>
                have tk_ : True := trivial
                go_wp2_with (first | ((with_reducible refine gate_load (T := 24) rfl ?_); refine load_row_event (by first | rfl | (go_simp; done)) 24 _ rfl gb229 rfl 24 _ (0, 0) _ (by (with_reducible repeat (first | refine blk_drewN ?_ _ | refine blk_drew ?_ | refine blk_alloc ?_ _)); first | exact BK229.out | exact (blk_far BK229.out NB229_234.out _) | exact (blk_far BK229.out NB229_239.out _) | exact (blk_far BK229.out NB229_242.out _)) hu24 rfl (by kernel_rfl) ?_) | ((with_reducible refine gate_load (T := 26) rfl ?_); refine load_row_event (by first | rfl | (go_simp; done)) 26 _ rfl gb234 rfl 26 _ (0, 0) _ (by (with_reducible repeat (first | refine blk_drewN ?_ _ | refine blk_drew ?_ | refine blk_alloc ?_ _)); first | exact BK234.out | exact (blk_far BK234.out NB234_229.out _) | exact (blk_far BK234.out NB234_239.out _) | exact (blk_far BK234.out NB234_242.out _)) hu26 rfl (by kernel_rfl) ?_) | ((with_reducible refine gate_load (T := 26) rfl ?_); refine load_row_event (by first | rfl | (go_simp; done)) 26 _ rfl gb239 rfl 26 _ (0, 0) _ (by (with_reducible repeat (first | refine blk_drewN ?_ _ | refine blk_drew ?_ | refine blk_alloc ?_ _)); first | exact BK239.out | exact (blk_far BK239.out NB239_229.out _) | exact (blk_far BK239.out NB239_234.out _) | exact (blk_far BK239.out NB239_242.out _)) hu26 rfl (by kernel_rfl) ?_) | ((with_reducible refine gate_load (T := 26) rfl ?_); refine load_row_event (by first | rfl | (go_simp; done)) 26 _ rfl gb242 rfl 26 _ (0, 0) _ (by (with_reducible repeat (first | refine blk_drewN ?_ _ | refine blk_drew ?_ | refine blk_alloc ?_ _)); first | exact BK242.out | exact (blk_far BK242.out NB242_229.out _) | exact (blk_far BK242.out NB242_234.out _) | exact (blk_far BK242.out NB242_239.out _)) hu26 rfl (by kernel_rfl) ?_) | ((with_reducible refine gate_store (t := 24) rfl ?_); refine store_row_event (base := w.heap.size) rfl rfl 24 _ _ rfl (g := gb229) (by rfl) (by rfl) (by (with_reducible repeat (first | refine blk_drewN ?_ _ | refine blk_drew ?_ | refine blk_alloc ?_ _)); exact BK229.out) (by kernel_rfl) (by rfl) (by rfl) GE229.out ?_; intro ws_ hs_ hk_ hb_; have n0_ := Aside0.mk (Below.trans (by repeat (first | (with_reducible first | exact HB.out | apply below_alloc | apply pw_below_drewN | apply below_drew1) | exact HB.out)) hb_); clear HB; have HB := n0_; clear n0_; clear BK229; have BK229 := Aside0.mk hs_; clear hs_; (try (have z_ := Aside0.mk (blk_else BK234.out NB234_229.out hk_); clear BK234; have BK234 := z_; clear z_)); (try (have z_ := Aside0.mk (blk_else BK239.out NB239_229.out hk_); clear BK239; have BK239 := z_; clear z_)); (try (have z_ := Aside0.mk (blk_else BK242.out NB242_229.out hk_); clear BK242; have BK242 := z_; clear z_)); have hxs_ := blk_cell BK229.out; have hys_ := blk_frozen BK229.out; clear hk_ hb_) | ((with_reducible refine gate_store (t := 26) rfl ?_); refine store_row_event (base := w.heap.size) rfl rfl 26 _ _ rfl (g := gb234) (by rfl) (by rfl) (by (with_reducible repeat (first | refine blk_drewN ?_ _ | refine blk_drew ?_ | refine blk_alloc ?_ _)); exact BK234.out) (by kernel_rfl) (by rfl) (by rfl) GE234.out ?_; intro ws_ hs_ hk_ hb_; have n0_ := Aside0.mk (Below.trans (by repeat (first | (with_reducible first | exact HB.out | apply below_alloc | apply pw_below_drewN | apply below_drew1) | exact HB.out)) hb_); clear HB; have HB := n0_; clear n0_; clear BK234; have BK234 := Aside0.mk hs_; clear hs_; (try (have z_ := Aside0.mk (blk_else BK229.out NB229_234.out hk_); clear BK229; have BK229 := z_; clear z_)); (try (have z_ := Aside0.mk (blk_else BK239.out NB239_234.out hk_); clear BK239; have BK239 := z_; clear z_)); (try (have z_ := Aside0.mk (blk_else BK242.out NB242_234.out hk_); clear BK242; have BK242 := z_; clear z_)); have hxs_ := blk_cell BK234.out; have hys_ := blk_frozen BK234.out; clear hk_ hb_) | ((with_reducible refine gate_store (t := 26) rfl ?_); refine store_row_event (base := w.heap.size) rfl rfl 26 _ _ rfl (g := gb239) (by rfl) (by rfl) (by (with_reducible repeat (first | refine blk_drewN ?_ _ | refine blk_drew ?_ | refine blk_alloc ?_ _)); exact BK239.out) (by kernel_rfl) (by rfl) (by rfl) GE239.out ?_; intro ws_ hs_ hk_ hb_; have n0_ := Aside0.mk (Below.trans (by repeat (first | (with_reducible first | exact HB.out | apply below_alloc | apply pw_below_drewN | apply below_drew1) | exact HB.out)) hb_); clear HB; have HB := n0_; clear n0_; clear BK239; have BK239 := Aside0.mk hs_; clear hs_; (try (have z_ := Aside0.mk (blk_else BK229.out NB229_239.out hk_); clear BK229; have BK229 := z_; clear z_)); (try (have z_ := Aside0.mk (blk_else BK234.out NB234_239.out hk_); clear BK234; have BK234 := z_; clear z_)); (try (have z_ := Aside0.mk (blk_else BK242.out NB242_239.out hk_); clear BK242; have BK242 := z_; clear z_)); have hxs_ := blk_cell BK239.out; have hys_ := blk_frozen BK239.out; clear hk_ hb_) | ((with_reducible refine gate_store (t := 26) rfl ?_); refine store_row_event (base := w.heap.size) rfl rfl 26 _ _ rfl (g := gb242) (by rfl) (by rfl) (by (with_reducible repeat (first | refine blk_drewN ?_ _ | refine blk_drew ?_ | refine blk_alloc ?_ _)); exact BK242.out) (by kernel_rfl) (by rfl) (by rfl) GE242.out ?_; intro ws_ hs_ hk_ hb_; have n0_ := Aside0.mk (Below.trans (by repeat (first | (with_reducible first | exact HB.out | apply below_alloc | apply pw_below_drewN | apply below_drew1) | exact HB.out)) hb_); clear HB; have HB := n0_; clear n0_; clear BK242; have BK242 := Aside0.mk hs_; clear hs_; (try (have z_ := Aside0.mk (blk_else BK229.out NB229_242.out hk_); clear BK229; have BK229 := z_; clear z_)); (try (have z_ := Aside0.mk (blk_else BK234.out NB234_242.out hk_); clear BK234; have BK234 := z_; clear z_)); (try (have z_ := Aside0.mk (blk_else BK239.out NB239_242.out hk_); clear BK239; have BK239 := z_; clear z_)); have hxs_ := blk_cell BK242.out; have hys_ := blk_frozen BK242.out; clear hk_ hb_) | (go_at_call 13; clear tk_; (with_reducible refine (dem_Pair.calls kj29 a0_0 a0_1 a0_2 a0_3 _ _ l0_4 a0_5 a0_6 a0_7 a0_8 a0_9 a0_10 a0_11 a0_12 a0_13 a0_14 a0_15 a0_16 a0_17 a0_18 a0_19 a0_20 x235000_2 x235001_2 x235002_2 t236 t237 t238 (wrap64 ((wrap64 (a2)) + (wrap64 (a3)))) t241 _ ?side1 ?side2 A33.out).mono ?_); (case side1 => repeat (first | exact (Kd.C_below HR0_4.out HB.out) | (with_reducible refine Kd.C_alloc ?_ _) | (with_reducible refine Kd.C_drewN ?_ _) | (with_reducible refine Kd.C_drew ?_))); (case side2 => exact HC0_4.out); rintro e w50 ⟨rfl, hb⟩; have n0_ := Aside0.mk (blk_below (g := gb229) (o := .cells #[.int .i64 a0_0, .int .i64 a0_1, .int .i64 a0_2, .int .i64 a0_3, .slice A0_4 l0_4.length c0_4, .int .i64 a0_5, .int .i64 a0_6, .int .i64 a0_7, .int .i64 a0_8, .int .i64 a0_9, .int .i64 a0_10, .int .i64 a0_11, .int .i64 a0_12, .int .i64 a0_13, .int .i64 a0_14, .int .i64 a0_15, .int .i64 a0_16, .int .i64 a0_17, .int .i64 a0_18, .int .i64 a0_19, .int .i64 a0_20] 24 (0, 0)) (by (with_reducible repeat (first | refine blk_drewN ?_ _ | refine blk_drew ?_ | refine blk_alloc ?_ _)); exact BK229.out) hb); have n1_ := Aside0.mk (blk_below (g := gb234) (o := .cells #[.int .i64 x235000_2, .int .i64 x235001_2, .int .i64 x235002_2] 26 (0, 0)) (by (with_reducible repeat (first | refine blk_drewN ?_ _ | refine blk_drew ?_ | refine blk_alloc ?_ _)); exact BK234.out) hb); have n2_ := Aside0.mk (blk_below (g := gb239) (o := .cells #[.int .i64 t236, .int .i64 t237, .int .i64 t238] 26 (0, 0)) (by (with_reducible repeat (first | refine blk_drewN ?_ _ | refine blk_drew ?_ | refine blk_alloc ?_ _)); exact BK239.out) hb); have n3_ := Aside0.mk (below_step (by repeat (first | (with_reducible first | exact HB.out | apply below_alloc | apply pw_below_drewN | apply below_drew1 | refine below_set ?_ GE229.out | refine below_set ?_ GE234.out | refine below_set ?_ GE239.out) | exact HB.out)) hb); clear BK229; clear BK234; clear BK239; clear HB; have BK229 := n0_; have BK234 := n1_; have BK239 := n2_; have HB := n3_; clear n0_ n1_ n2_ n3_; (try clear hb); (try clear hb2); (try clear hk); (try clear hi); have hcz51_0 : w50.cell? ⟨gb239, 0, none⟩ = some (.int .i64 t236) := (blk_cell BK239.out 0).trans rfl; have hcz51_1 : w50.cell? ⟨gb239, 1, none⟩ = some (.int .i64 t237) := (blk_cell BK239.out 1).trans rfl; have hcz51_2 : w50.cell? ⟨gb239, 2, none⟩ = some (.int .i64 t238) := (blk_cell BK239.out 2).trans rfl; have hfz51_0 := blk_frozen BK239.out 0; have hfz51_1 := blk_frozen BK239.out 1; have hfz51_2 := blk_frozen BK239.out 2) | ((with_reducible refine gate_dst (N := 17) rfl ?_); (try (refine gate_guard (by rfl) ?_; dsimp only)); refine box_event ?hg (N := 17) ?hd (cs := #[.int .i64 0, .int .i64 0, .int .i64 0]) (t := 26) ?hr ?_; (case hd => rfl); (case hg => rfl); (case hr => first | (go_simp; done) | (go_simp; rfl)); intro gb242 hg w52 hbox hb; have n0_ := Aside0.mk (blk_below (g := gb229) (o := .cells #[.int .i64 a0_0, .int .i64 a0_1, .int .i64 a0_2, .int .i64 a0_3, .slice A0_4 l0_4.length c0_4, .int .i64 a0_5, .int .i64 a0_6, .int .i64 a0_7, .int .i64 a0_8, .int .i64 a0_9, .int .i64 a0_10, .int .i64 a0_11, .int .i64 a0_12, .int .i64 a0_13, .int .i64 a0_14, .int .i64 a0_15, .int .i64 a0_16, .int .i64 a0_17, .int .i64 a0_18, .int .i64 a0_19, .int .i64 a0_20] 24 (0, 0)) (by (with_reducible repeat (first | refine blk_drewN ?_ _ | refine blk_drew ?_ | refine blk_alloc ?_ _)); exact BK229.out) hb); have n1_ := Aside0.mk (blk_below (g := gb234) (o := .cells #[.int .i64 x235000_2, .int .i64 x235001_2, .int .i64 x235002_2] 26 (0, 0)) (by (with_reducible repeat (first | refine blk_drewN ?_ _ | refine blk_drew ?_ | refine blk_alloc ?_ _)); exact BK234.out) hb); have n2_ := Aside0.mk (blk_below (g := gb239) (o := .cells #[.int .i64 t236, .int .i64 t237, .int .i64 t238] 26 (0, 0)) (by (with_reducible repeat (first | refine blk_drewN ?_ _ | refine blk_drew ?_ | refine blk_alloc ?_ _)); exact BK239.out) hb); have n3_ := Aside0.mk (below_step (by repeat (first | (with_reducible first | exact HB.out | apply below_alloc | apply pw_below_drewN | apply below_drew1 | refine below_set ?_ GE229.out | refine below_set ?_ GE234.out | refine below_set ?_ GE239.out) | exact HB.out)) hb); have n4_ := Aside0.mk (hbox); have n5_ := Aside0.mk ((by rw [hg]; exact (below_size (by repeat (first | (with_reducible first | exact HB.out | apply below_alloc | apply pw_below_drewN | apply below_drew1 | refine below_set ?_ GE229.out | refine below_set ?_ GE234.out | refine below_set ?_ GE239.out) | exact HB.out))) : w.heap.size ≤ gb242)); have n6_ := Aside0.mk ((by rw [hg]; exact (below_size (by repeat (first | (with_reducible first | exact HB.out | apply below_alloc | apply pw_below_drewN | apply below_drew1 | refine below_set ?_ GE229.out | refine below_set ?_ GE234.out | refine below_set ?_ GE239.out) | exact HB.out))) : w.heap.size ≤ gb242)); have n7_ := Aside0.mk ((by rw [hg]; exact Nat.ne_of_lt (blk_lt (g := gb229) (o := .cells #[.int .i64 a0_0, .int .i64 a0_1, .int .i64 a0_2, .int .i64 a0_3, .slice A0_4 l0_4.length c0_4, .int .i64 a0_5, .int .i64 a0_6, .int .i64 a0_7, .int .i64 a0_8, .int .i64 a0_9, .int .i64 a0_10, .int .i64 a0_11, .int .i64 a0_12, .int .i64 a0_13, .int .i64 a0_14, .int .i64 a0_15, .int .i64 a0_16, .int .i64 a0_17, .int .i64 a0_18, .int .i64 a0_19, .int .i64 a0_20] 24 (0, 0)) (by (with_reducible repeat (first | refine blk_drewN ?_ _ | refine blk_drew ?_ | refine blk_alloc ?_ _)); exact BK229.out)) : gb229 ≠ gb242)); have n8_ := Aside0.mk ((by rw [hg]; exact Nat.ne_of_gt (blk_lt (g := gb229) (o := .cells #[.int .i64 a0_0, .int .i64 a0_1, .int .i64 a0_2, .int .i64 a0_3, .slice A0_4 l0_4.length c0_4, .int .i64 a0_5, .int .i64 a0_6, .int .i64 a0_7, .int .i64 a0_8, .int .i64 a0_9, .int .i64 a0_10, .int .i64 a0_11, .int .i64 a0_12, .int .i64 a0_13, .int .i64 a0_14, .int .i64 a0_15, .int .i64 a0_16, .int .i64 a0_17, .int .i64 a0_18, .int .i64 a0_19, .int .i64 a0_20] 24 (0, 0)) (by (with_reducible repeat (first | refine blk_drewN ?_ _ | refine blk_drew ?_ | refine blk_alloc ?_ _)); exact BK229.out)) : gb242 ≠ gb229)); have n9_ := Aside0.mk ((by rw [hg]; exact Nat.ne_of_lt (blk_lt (g := gb234) (o := .cells #[.int .i64 x235000_2, .int .i64 x235001_2, .int .i64 x235002_2] 26 (0, 0)) (by (with_reducible repeat (first | refine blk_drewN ?_ _ | refine blk_drew ?_ | refine blk_alloc ?_ _)); exact BK234.out)) : gb234 ≠ gb242)); have n10_ := Aside0.mk ((by rw [hg]; exact Nat.ne_of_gt (blk_lt (g := gb234) (o := .cells #[.int .i64 x235000_2, .int .i64 x235001_2, .int .i64 x235002_2] 26 (0, 0)) (by (with_reducible repeat (first | refine blk_drewN ?_ _ | refine blk_drew ?_ | refine blk_alloc ?_ _)); exact BK234.out)) : gb242 ≠ gb234)); have n11_ := Aside0.mk ((by rw [hg]; exact Nat.ne_of_lt (blk_lt (g := gb239) (o := .cells #[.int .i64 t236, .int .i64 t237, .int .i64 t238] 26 (0, 0)) (by (with_reducible repeat (first | refine blk_drewN ?_ _ | refine blk_drew ?_ | refine blk_alloc ?_ _)); exact BK239.out)) : gb239 ≠ gb242)); have n12_ := Aside0.mk ((by rw [hg]; exact Nat.ne_of_gt (blk_lt (g := gb239) (o := .cells #[.int .i64 t236, .int .i64 t237, .int .i64 t238] 26 (0, 0)) (by (with_reducible repeat (first | refine blk_drewN ?_ _ | refine blk_drew ?_ | refine blk_alloc ?_ _)); exact BK239.out)) : gb242 ≠ gb239)); clear BK229; clear BK234; clear BK239; clear HB; have BK229 := n0_; have BK234 := n1_; have BK239 := n2_; have HB := n3_; have BK242 := n4_; have GW242 := n5_; have GE242 := n6_; have NB229_242 := n7_; have NB242_229 := n8_; have NB234_242 := n9_; have NB242_234 := n10_; have NB239_242 := n11_; have NB242_239 := n12_; clear n0_ n1_ n2_ n3_ n4_ n5_ n6_ n7_ n8_ n9_ n10_ n11_ n12_; clear hb hbox hg; have hnb53 := NB242_229.out; have hnc53 := NB229_242.out; have hnb54 := NB242_234.out; have hnc54 := NB234_242.out; have hnb55 := NB242_239.out; have hnc55 := NB239_242.out; have hcz56_0 : w52.cell? ⟨gb242, 0, none⟩ = some (.int .i64 0) := (blk_cell BK242.out 0).trans rfl; have hcz56_1 : w52.cell? ⟨gb242, 1, none⟩ = some (.int .i64 0) := (blk_cell BK242.out 1).trans rfl; have hcz56_2 : w52.cell? ⟨gb242, 2, none⟩ = some (.int .i64 0) := (blk_cell BK242.out 2).trans rfl; have hfz56_0 := blk_frozen BK242.out 0; have hfz56_1 := blk_frozen BK242.out 1; have hfz56_2 := blk_frozen BK242.out 2; have hcz57_0 := blk_cell BK229.out; have hfz57_0 := blk_frozen BK229.out; have hcz58_0 : w52.cell? ⟨gb234, 0, none⟩ = some (.int .i64 x235000_2) := (blk_cell BK234.out 0).trans rfl; have hcz58_1 : w52.cell? ⟨gb234, 1, none⟩ = some (.int .i64 x235001_2) := (blk_cell BK234.out 1).trans rfl; have hcz58_2 : w52.cell? ⟨gb234, 2, none⟩ = some (.int .i64 x235002_2) := (blk_cell BK234.out 2).trans rfl; have hfz58_0 := blk_frozen BK234.out 0; have hfz58_1 := blk_frozen BK234.out 1; have hfz58_2 := blk_frozen BK234.out 2))
                as_aux_lemma =>
                have tk_ : True := trivial
                go_wp2_with (first | ((with_reducible refine gate_load (T := 24) rfl ?_); refine load_row_event (by first | rfl | (go_simp; done)) 24 _ rfl gb229 rfl 24 _ (0, 0) _ (by (with_reducible repeat (first | refine blk_drewN ?_ _ | refine blk_drew ?_ | refine blk_alloc ?_ _)); first | exact BK229.out | exact (blk_far BK229.out NB229_234.out _) | exact (blk_far BK229.out NB229_239.out _) | exact (blk_far BK229.out NB229_242.out _)) hu24 rfl (by kernel_rfl) ?_) | ((with_reducible refine gate_load (T := 26) rfl ?_); refine load_row_event (by first | rfl | (go_simp; done)) 26 _ rfl gb234 rfl 26 _ (0, 0) _ (by (with_reducible repeat (first | refine blk_drewN ?_ _ | refine blk_drew ?_ | refine blk_alloc ?_ _)); first | exact BK234.out | exact (blk_far BK234.out NB234_229.out _) | exact (blk_far BK234.out NB234_239.out _) | exact (blk_far BK234.out NB234_242.out _)) hu26 rfl (by kernel_rfl) ?_) | ((with_reducible refine gate_load (T := 26) rfl ?_); refine load_row_event (by first | rfl | (go_simp; done)) 26 _ rfl gb239 rfl 26 _ (0, 0) _ (by (with_reducible repeat (first | refine blk_drewN ?_ _ | refine blk_drew ?_ | refine blk_alloc ?_ _)); first | exact BK239.out | exact (blk_far BK239.out NB239_229.out _) | exact (blk_far BK239.out NB239_234.out _) | exact (blk_far BK239.out NB239_242.out _)) hu26 rfl (by kernel_rfl) ?_) | ((with_reducible refine gate_load (T := 26) rfl ?_); refine load_row_event (by first | rfl | (go_simp; done)) 26 _ rfl gb242 rfl 26 _ (0, 0) _ (by (with_reducible repeat (first | refine blk_drewN ?_ _ | refine blk_drew ?_ | refine blk_alloc ?_ _)); first | exact BK242.out | exact (blk_far BK242.out NB242_229.out _) | exact (blk_far BK242.out NB242_234.out _) | exact (blk_far BK242.out NB242_239.out _)) hu26 rfl (by kernel_rfl) ?_) | ((with_reducible refine gate_store (t := 24) rfl ?_); refine store_row_event (base := w.heap.size) rfl rfl 24 _ _ rfl (g := gb229) (by rfl) (by rfl) (by (with_reducible repeat (first | refine blk_drewN ?_ _ | refine blk_drew ?_ | refine blk_alloc ?_ _)); exact BK229.out) (by kernel_rfl) (by rfl) (by rfl) GE229.out ?_; intro ws_ hs_ hk_ hb_; have n0_ := Aside0.mk (Below.trans (by repeat (first | (with_reducible first | exact HB.out | apply below_alloc | apply pw_below_drewN | apply below_drew1) | exact HB.out)) hb_); clear HB; have HB := n0_; clear n0_; clear BK229; have BK229 := Aside0.mk hs_; clear hs_; (try (have z_ := Aside0.mk (blk_else BK234.out NB234_229.out hk_); clear BK234; have BK234 := z_; clear z_)); (try (have z_ := Aside0.mk (blk_else BK239.out NB239_229.out hk_); clear BK239; have BK239 := z_; clear z_)); (try (have z_ := Aside0.mk (blk_else BK242.out NB242_229.out hk_); clear BK242; have BK242 := z_; clear z_)); have hxs_ := blk_cell BK229.out; have hys_ := blk_frozen BK229.out; clear hk_ hb_) | ((with_reducible refine gate_store (t := 26) rfl ?_); refine store_row_event (base := w.heap.size) rfl rfl 26 _ _ rfl (g := gb234) (by rfl) (by rfl) (by (with_reducible repeat (first | refine blk_drewN ?_ _ | refine blk_drew ?_ | refine blk_alloc ?_ _)); exact BK234.out) (by kernel_rfl) (by rfl) (by rfl) GE234.out ?_; intro ws_ hs_ hk_ hb_; have n0_ := Aside0.mk (Below.trans (by repeat (first | (with_reducible first | exact HB.out | apply below_alloc | apply pw_below_drewN | apply below_drew1) | exact HB.out)) hb_); clear HB; have HB := n0_; clear n0_; clear BK234; have BK234 := Aside0.mk hs_; clear hs_; (try (have z_ := Aside0.mk (blk_else BK229.out NB229_234.out hk_); clear BK229; have BK229 := z_; clear z_)); (try (have z_ := Aside0.mk (blk_else BK239.out NB239_234.out hk_); clear BK239; have BK239 := z_; clear z_)); (try (have z_ := Aside0.mk (blk_else BK242.out NB242_234.out hk_); clear BK242; have BK242 := z_; clear z_)); have hxs_ := blk_cell BK234.out; have hys_ := blk_frozen BK234.out; clear hk_ hb_) | ((with_reducible refine gate_store (t := 26) rfl ?_); refine store_row_event (base := w.heap.size) rfl rfl 26 _ _ rfl (g := gb239) (by rfl) (by rfl) (by (with_reducible repeat (first | refine blk_drewN ?_ _ | refine blk_drew ?_ | refine blk_alloc ?_ _)); exact BK239.out) (by kernel_rfl) (by rfl) (by rfl) GE239.out ?_; intro ws_ hs_ hk_ hb_; have n0_ := Aside0.mk (Below.trans (by repeat (first | (with_reducible first | exact HB.out | apply below_alloc | apply pw_below_drewN | apply below_drew1) | exact HB.out)) hb_); clear HB; have HB := n0_; clear n0_; clear BK239; have BK239 := Aside0.mk hs_; clear hs_; (try (have z_ := Aside0.mk (blk_else BK229.out NB229_239.out hk_); clear BK229; have BK229 := z_; clear z_)); (try (have z_ := Aside0.mk (blk_else BK234.out NB234_239.out hk_); clear BK234; have BK234 := z_; clear z_)); (try (have z_ := Aside0.mk (blk_else BK242.out NB242_239.out hk_); clear BK242; have BK242 := z_; clear z_)); have hxs_ := blk_cell BK239.out; have hys_ := blk_frozen BK239.out; clear hk_ hb_) | ((with_reducible refine gate_store (t := 26) rfl ?_); refine store_row_event (base := w.heap.size) rfl rfl 26 _ _ rfl (g := gb242) (by rfl) (by rfl) (by (with_reducible repeat (first | refine blk_drewN ?_ _ | refine blk_drew ?_ | refine blk_alloc ?_ _)); exact BK242.out) (by kernel_rfl) (by rfl) (by rfl) GE242.out ?_; intro ws_ hs_ hk_ hb_; have n0_ := Aside0.mk (Below.trans (by repeat (first | (with_reducible first | exact HB.out | apply below_alloc | apply pw_below_drewN | apply below_drew1) | exact HB.out)) hb_); clear HB; have HB := n0_; clear n0_; clear BK242; have BK242 := Aside0.mk hs_; clear hs_; (try (have z_ := Aside0.mk (blk_else BK229.out NB229_242.out hk_); clear BK229; have BK229 := z_; clear z_)); (try (have z_ := Aside0.mk (blk_else BK234.out NB234_242.out hk_); clear BK234; have BK234 := z_; clear z_)); (try (have z_ := Aside0.mk (blk_else BK239.out NB239_242.out hk_); clear BK239; have BK239 := z_; clear z_)); have hxs_ := blk_cell BK242.out; have hys_ := blk_frozen BK242.out; clear hk_ hb_) | (go_at_call 13; clear tk_; (with_reducible refine (dem_Pair.calls kj29 a0_0 a0_1 a0_2 a0_3 _ _ l0_4 a0_5 a0_6 a0_7 a0_8 a0_9 a0_10 a0_11 a0_12 a0_13 a0_14 a0_15 a0_16 a0_17 a0_18 a0_19 a0_20 x235000_2 x235001_2 x235002_2 t236 t237 (wrap64 (t238 + 1)) (wrap64 (a2)) t243 _ ?side1 ?side2 A34.out).mono ?_); (case side1 => exact Kd.C_below HR0_4.out (by repeat (first | (with_reducible first | exact HB.out | apply below_alloc | apply pw_below_drewN | apply below_drew1 | refine below_set ?_ GE229.out | refine below_set ?_ GE234.out | refine below_set ?_ GE239.out | refine below_set ?_ GE242.out) | exact HB.out))); (case side2 => exact HC0_4.out); rintro e w59 ⟨rfl, hb⟩; have n0_ := Aside0.mk (blk_below (g := gb229) (o := .cells #[.int .i64 a0_0, .int .i64 a0_1, .int .i64 a0_2, .int .i64 a0_3, .slice A0_4 l0_4.length c0_4, .int .i64 a0_5, .int .i64 a0_6, .int .i64 a0_7, .int .i64 a0_8, .int .i64 a0_9, .int .i64 a0_10, .int .i64 a0_11, .int .i64 a0_12, .int .i64 a0_13, .int .i64 a0_14, .int .i64 a0_15, .int .i64 a0_16, .int .i64 a0_17, .int .i64 a0_18, .int .i64 a0_19, .int .i64 a0_20] 24 (0, 0)) (by (with_reducible repeat (first | refine blk_drewN ?_ _ | refine blk_drew ?_ | refine blk_alloc ?_ _)); (try (refine blk_far ?_ NB229_242.out _)); (with_reducible repeat (first | refine blk_drewN ?_ _ | refine blk_drew ?_ | refine blk_alloc ?_ _)); (try (refine blk_far ?_ NB229_242.out _)); (with_reducible repeat (first | refine blk_drewN ?_ _ | refine blk_drew ?_ | refine blk_alloc ?_ _)); (try (refine blk_far ?_ NB229_242.out _)); (with_reducible repeat (first | refine blk_drewN ?_ _ | refine blk_drew ?_ | refine blk_alloc ?_ _)); (try (refine blk_far ?_ NB229_242.out _)); (with_reducible repeat (first | refine blk_drewN ?_ _ | refine blk_drew ?_ | refine blk_alloc ?_ _)); exact BK229.out) hb); have n1_ := Aside0.mk (blk_below (g := gb234) (o := .cells #[.int .i64 x235000_2, .int .i64 x235001_2, .int .i64 x235002_2] 26 (0, 0)) (by (with_reducible repeat (first | refine blk_drewN ?_ _ | refine blk_drew ?_ | refine blk_alloc ?_ _)); (try (refine blk_far ?_ NB234_242.out _)); (with_reducible repeat (first | refine blk_drewN ?_ _ | refine blk_drew ?_ | refine blk_alloc ?_ _)); (try (refine blk_far ?_ NB234_242.out _)); (with_reducible repeat (first | refine blk_drewN ?_ _ | refine blk_drew ?_ | refine blk_alloc ?_ _)); (try (refine blk_far ?_ NB234_242.out _)); (with_reducible repeat (first | refine blk_drewN ?_ _ | refine blk_drew ?_ | refine blk_alloc ?_ _)); (try (refine blk_far ?_ NB234_242.out _)); (with_reducible repeat (first | refine blk_drewN ?_ _ | refine blk_drew ?_ | refine blk_alloc ?_ _)); exact BK234.out) hb); have n2_ := Aside0.mk (blk_below (g := gb239) (o := .cells #[.int .i64 t236, .int .i64 t237, .int .i64 t238] 26 (0, 0)) (by (with_reducible repeat (first | refine blk_drewN ?_ _ | refine blk_drew ?_ | refine blk_alloc ?_ _)); (try (refine blk_far ?_ NB239_242.out _)); (with_reducible repeat (first | refine blk_drewN ?_ _ | refine blk_drew ?_ | refine blk_alloc ?_ _)); (try (refine blk_far ?_ NB239_242.out _)); (with_reducible repeat (first | refine blk_drewN ?_ _ | refine blk_drew ?_ | refine blk_alloc ?_ _)); (try (refine blk_far ?_ NB239_242.out _)); (with_reducible repeat (first | refine blk_drewN ?_ _ | refine blk_drew ?_ | refine blk_alloc ?_ _)); (try (refine blk_far ?_ NB239_242.out _)); (with_reducible repeat (first | refine blk_drewN ?_ _ | refine blk_drew ?_ | refine blk_alloc ?_ _)); exact BK239.out) hb); have n3_ := Aside0.mk (blk_below (g := gb242) (o := .cells #[.int .i64 t236, .int .i64 t237, .int .i64 (wrap64 (t238 + 1))] 26 (0, 0)) (by (with_reducible repeat (first | refine blk_drewN ?_ _ | refine blk_drew ?_ | refine blk_alloc ?_ _)); (try (refine blk_put (cs := #[.int .i64 t236, .int .i64 t237, .int .i64 t238]) ?_ 2 _ rfl)); (with_reducible repeat (first | refine blk_drewN ?_ _ | refine blk_drew ?_ | refine blk_alloc ?_ _)); (try (refine blk_put (cs := #[.int .i64 t236, .int .i64 t237, .int .i64 0]) ?_ 2 _ rfl)); (with_reducible repeat (first | refine blk_drewN ?_ _ | refine blk_drew ?_ | refine blk_alloc ?_ _)); (try (refine blk_put (cs := #[.int .i64 t236, .int .i64 0, .int .i64 0]) ?_ 1 _ rfl)); (with_reducible repeat (first | refine blk_drewN ?_ _ | refine blk_drew ?_ | refine blk_alloc ?_ _)); (try (refine blk_put (cs := #[.int .i64 0, .int .i64 0, .int .i64 0]) ?_ 0 _ rfl)); (with_reducible repeat (first | refine blk_drewN ?_ _ | refine blk_drew ?_ | refine blk_alloc ?_ _)); exact BK242.out) hb); have n4_ := Aside0.mk (below_step (by repeat (first | (with_reducible first | exact HB.out | apply below_alloc | apply pw_below_drewN | apply below_drew1 | refine below_set ?_ GE229.out | refine below_set ?_ GE234.out | refine below_set ?_ GE239.out | refine below_set ?_ GE242.out) | exact HB.out)) hb); clear BK229; clear BK234; clear BK239; clear BK242; clear HB; have BK229 := n0_; have BK234 := n1_; have BK239 := n2_; have BK242 := n3_; have HB := n4_; clear n0_ n1_ n2_ n3_ n4_; (try clear hb); (try clear hb2); (try clear hk); (try clear hi); have hcz60_0 : w59.cell? ⟨gb239, 0, none⟩ = some (.int .i64 t236) := (blk_cell BK239.out 0).trans rfl; have hcz60_1 : w59.cell? ⟨gb239, 1, none⟩ = some (.int .i64 t237) := (blk_cell BK239.out 1).trans rfl; have hcz60_2 : w59.cell? ⟨gb239, 2, none⟩ = some (.int .i64 t238) := (blk_cell BK239.out 2).trans rfl; have hfz60_0 := blk_frozen BK239.out 0; have hfz60_1 := blk_frozen BK239.out 1; have hfz60_2 := blk_frozen BK239.out 2; have hcz61_0 : w59.cell? ⟨gb234, 0, none⟩ = some (.int .i64 x235000_2) := (blk_cell BK234.out 0).trans rfl; have hcz61_1 : w59.cell? ⟨gb234, 1, none⟩ = some (.int .i64 x235001_2) := (blk_cell BK234.out 1).trans rfl; have hcz61_2 : w59.cell? ⟨gb234, 2, none⟩ = some (.int .i64 x235002_2) := (blk_cell BK234.out 2).trans rfl; have hfz61_0 := blk_frozen BK234.out 0; have hfz61_1 := blk_frozen BK234.out 1; have hfz61_2 := blk_frozen BK234.out 2))
                go_roundg kj29
                case measure => have := HJ5.out; have := HK2.out; have := HJ20.out; have := HJ29.out; omega
                case rel => exact ⟨(x11_29), (wrap64 (x12_2 + 1)), (t236), (t237), (t238), (by first | rfl | (simp; done) | (simp [*]; done)), (by first | rfl | (simp; done) | (simp [*]; done)), H', ⟨by have := HJ5.out; have := HK2.out; have := HJ20.out; have := HJ29.out; omega⟩, ⟨by (with_reducible repeat (first | refine blk_drewN ?_ _ | refine blk_drew ?_ | refine blk_alloc ?_ _)); (try (refine blk_far ?_ NB229_234.out _)); (with_reducible repeat (first | refine blk_drewN ?_ _ | refine blk_drew ?_ | refine blk_alloc ?_ _)); (try (refine blk_far ?_ NB229_234.out _)); (with_reducible repeat (first | refine blk_drewN ?_ _ | refine blk_drew ?_ | refine blk_alloc ?_ _)); (try (refine blk_far ?_ NB229_234.out _)); (with_reducible repeat (first | refine blk_drewN ?_ _ | refine blk_drew ?_ | refine blk_alloc ?_ _)); exact BK229.out⟩, ⟨by (with_reducible repeat (first | refine blk_drewN ?_ _ | refine blk_drew ?_ | refine blk_alloc ?_ _)); (try (refine blk_put (cs := #[.int .i64 t236, .int .i64 t237, .int .i64 x235002_2]) ?_ 2 _ rfl)); (with_reducible repeat (first | refine blk_drewN ?_ _ | refine blk_drew ?_ | refine blk_alloc ?_ _)); (try (refine blk_put (cs := #[.int .i64 t236, .int .i64 x235001_2, .int .i64 x235002_2]) ?_ 1 _ rfl)); (with_reducible repeat (first | refine blk_drewN ?_ _ | refine blk_drew ?_ | refine blk_alloc ?_ _)); (try (refine blk_put (cs := #[.int .i64 x235000_2, .int .i64 x235001_2, .int .i64 x235002_2]) ?_ 0 _ rfl)); (with_reducible repeat (first | refine blk_drewN ?_ _ | refine blk_drew ?_ | refine blk_alloc ?_ _)); exact BK234.out⟩, ⟨by repeat (first | (with_reducible first | exact HB.out | apply below_alloc | apply pw_below_drewN | apply below_drew1 | refine below_set ?_ GE229.out | refine below_set ?_ GE234.out | refine below_set ?_ GE239.out | refine below_set ?_ GE242.out) | exact HB.out)⟩⟩
            ·rw [if_neg c36] at H
             exact absurd H (by simp)
       ·rw [if_neg c19] at H
        exact absurd H (by simp)
      ·rw [if_neg c18] at H
       have c18b0 : decide (x12_2 < (l1.length : Int)) = false := decide_eq_false c18
       clear c18
       obtain rfl := Option.some.inj H
       go_wp2
       go_ret
       exact ⟨by first | rfl | (simp [errW_none, errW_some] <;> rfl) | (simp [*, errW_none, errW_some] <;> rfl), by repeat (first | (with_reducible first | exact HB.out | apply below_alloc | apply pw_below_drewN | apply below_drew1 | refine below_set ?_ GE229.out | refine below_set ?_ GE234.out) | exact HB.out)⟩

end Go.Proofs.Ytejpnfaaboicdaa.G
