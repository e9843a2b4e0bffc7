/- Contracts of the functions of this seat: what each call computes, as a plain Lean function. Made by this session's own generator. -/
import Derived.Test.YtejpnfaaboicdaaGx0
import Derived.Test.YtejpnfaaboicdaaGx12
import Derived.Test.YtejpnfaaboicdaaGx13
namespace Go.Proofs.Ytejpnfaaboicdaa.G
open Go.RowKit Go.Proofs.YtejpnfaaboicdaaMy Go.Proofs.YtejpnfaaboicdaaW.PrintWords Go.Proofs.YtejpnfaaboicdaaW.PrintLast Go.Proofs.YtejpnfaaboicdaaW.PrintMore
attribute [local go_sem] max2_int min2_int max_two min_two max_three min_three max_four min_four   -- for this text's walks alone
set_option linter.unusedVariables false
set_option linter.unusedSimpArgs false

/-! ### compositorref21_Both: function 25 -/
mutual
def compositorref21_Both.j0 : Nat → Int → Int → Int → Int → Int → List (S47) → Int → Int → Int → Int → Int → Int → Int → Int → Int → Int → Int → Int → Int → Int → Int → Int → Int → Int → Int → Int → Int → Int → Option (Int)
  | 0, _, _, _, _, _, _, _, _, _, _, _, _, _, _, _, _, _, _, _, _, _, _, _, _, _, _, _, _ => none
  | k + 1, x9, x195000, x195001, x195002, x195003, x195004, x195005, x195006, x195007, x195008, x195009, x195010, x195011, x195012, x195013, x195014, x195015, x195016, x195017, x195018, x195019, x195020, x196000, x196001, x196002, x197000, x197001, x197002 => (compositorref21_hyphen.f x196000).bind fun t198 => (if t198 = true then ((compositorref21_hyphen.f x197000).bind fun t199 => (compositorref21_Both.j1 k x9 t199 x195000 x195001 x195002 x195003 x195004 x195005 x195006 x195007 x195008 x195009 x195010 x195011 x195012 x195013 x195014 x195015 x195016 x195017 x195018 x195019 x195020 x196000 x196001 x196002 x197000 x197001 x197002)) else (compositorref21_Both.j1 k x9 false x195000 x195001 x195002 x195003 x195004 x195005 x195006 x195007 x195008 x195009 x195010 x195011 x195012 x195013 x195014 x195015 x195016 x195017 x195018 x195019 x195020 x196000 x196001 x196002 x197000 x197001 x197002))
def compositorref21_Both.j1 : Nat → Int → Bool → Int → Int → Int → Int → List (S47) → Int → Int → Int → Int → Int → Int → Int → Int → Int → Int → Int → Int → Int → Int → Int → Int → Int → Int → Int → Int → Int → Int → Option (Int)
  | 0, _, _, _, _, _, _, _, _, _, _, _, _, _, _, _, _, _, _, _, _, _, _, _, _, _, _, _, _, _ => none
  | k + 1, x9, x30, x195000, x195001, x195002, x195003, x195004, x195005, x195006, x195007, x195008, x195009, x195010, x195011, x195012, x195013, x195014, x195015, x195016, x195017, x195018, x195019, x195020, x196000, x196001, x196002, x197000, x197001, x197002 => if x30 = true then (compositorref21_Both.j2 k (wrap64 (x9 + x195016)) x195000 x195001 x195002 x195003 x195004 x195005 x195006 x195007 x195008 x195009 x195010 x195011 x195012 x195013 x195014 x195015 x195016 x195017 x195018 x195019 x195020 x196000 x196001 x196002 x197000 x197001 x197002) else (compositorref21_Both.j2 k x9 x195000 x195001 x195002 x195003 x195004 x195005 x195006 x195007 x195008 x195009 x195010 x195011 x195012 x195013 x195014 x195015 x195016 x195017 x195018 x195019 x195020 x196000 x196001 x196002 x197000 x197001 x197002)
def compositorref21_Both.j2 : Nat → Int → Int → Int → Int → Int → List (S47) → Int → Int → Int → Int → Int → Int → Int → Int → Int → Int → Int → Int → Int → Int → Int → Int → Int → Int → Int → Int → Int → Int → Option (Int)
  | 0, _, _, _, _, _, _, _, _, _, _, _, _, _, _, _, _, _, _, _, _, _, _, _, _, _, _, _, _ => none
  | k + 1, x9, x195000, x195001, x195002, x195003, x195004, x195005, x195006, x195007, x195008, x195009, x195010, x195011, x195012, x195013, x195014, x195015, x195016, x195017, x195018, x195019, x195020, x196000, x196001, x196002, x197000, x197001, x197002 => (compositorref21_hyphen.f x196000).bind fun t200 => (if t200 = true then (compositorref21_Both.j3 k x9 (x197000 == 5) x195000 x195001 x195002 x195003 x195004 x195005 x195006 x195007 x195008 x195009 x195010 x195011 x195012 x195013 x195014 x195015 x195016 x195017 x195018 x195019 x195020 x197000 x197001 x197002) else (compositorref21_Both.j3 k x9 false x195000 x195001 x195002 x195003 x195004 x195005 x195006 x195007 x195008 x195009 x195010 x195011 x195012 x195013 x195014 x195015 x195016 x195017 x195018 x195019 x195020 x197000 x197001 x197002))
def compositorref21_Both.j3 : Nat → Int → Bool → Int → Int → Int → Int → List (S47) → Int → Int → Int → Int → Int → Int → Int → Int → Int → Int → Int → Int → Int → Int → Int → Int → Int → Int → Int → Option (Int)
  | 0, _, _, _, _, _, _, _, _, _, _, _, _, _, _, _, _, _, _, _, _, _, _, _, _, _, _ => none
  | k + 1, x9, x42, x195000, x195001, x195002, x195003, x195004, x195005, x195006, x195007, x195008, x195009, x195010, x195011, x195012, x195013, x195014, x195015, x195016, x195017, x195018, x195019, x195020, x197000, x197001, x197002 => if x42 = true then (compositorref21_Both.j4 k (wrap64 (x9 + x195017)) x195000 x195001 x195002 x195003 x195004 x195005 x195006 x195007 x195008 x195009 x195010 x195011 x195012 x195013 x195014 x195015 x195016 x195017 x195018 x195019 x195020 x197000 x197001 x197002) else (compositorref21_Both.j4 k x9 x195000 x195001 x195002 x195003 x195004 x195005 x195006 x195007 x195008 x195009 x195010 x195011 x195012 x195013 x195014 x195015 x195016 x195017 x195018 x195019 x195020 x197000 x197001 x197002)
def compositorref21_Both.j4 : Nat → Int → Int → Int → Int → Int → List (S47) → Int → Int → Int → Int → Int → Int → Int → Int → Int → Int → Int → Int → Int → Int → Int → Int → Int → Int → Int → Option (Int)
  | 0, _, _, _, _, _, _, _, _, _, _, _, _, _, _, _, _, _, _, _, _, _, _, _, _, _ => none
  | k + 1, x9, x195000, x195001, x195002, x195003, x195004, x195005, x195006, x195007, x195008, x195009, x195010, x195011, x195012, x195013, x195014, x195015, x195016, x195017, x195018, x195019, x195020, x197000, x197001, x197002 => if x197002 = 3 then (if x197002 ≥ 4 then (some (wrap64 ((wrap64 (x9 + x195019)) + (wrap64 (2 * x195019))))) else (some (wrap64 (x9 + x195019)))) else (if x197002 ≥ 4 then (some (wrap64 (x9 + (wrap64 (2 * x195019))))) else (some x9))
end
def compositorref21_Both.f (k : Nat) (a0_0 : Int) (a0_1 : Int) (a0_2 : Int) (a0_3 : Int) (l0_4 : List (S47)) (a0_5 : Int) (a0_6 : Int) (a0_7 : Int) (a0_8 : Int) (a0_9 : Int) (a0_10 : Int) (a0_11 : Int) (a0_12 : Int) (a0_13 : Int) (a0_14 : Int) (a0_15 : Int) (a0_16 : Int) (a0_17 : Int) (a0_18 : Int) (a0_19 : Int) (a0_20 : Int) (a1_0 : Int) (a1_1 : Int) (a1_2 : Int) (a2_0 : Int) (a2_1 : Int) (a2_2 : Int) (a3 : Int) : Option (Int) := (compositorref21_far.f a1_1 a2_1).bind fun t197 => (if t197 = true then (compositorref21_Both.j0 k (wrap64 ((wrap64 (a0_18 * a3)) + a0_15)) a0_0 a0_1 a0_2 a0_3 l0_4 a0_5 a0_6 a0_7 a0_8 a0_9 a0_10 a0_11 a0_12 a0_13 a0_14 a0_15 a0_16 a0_17 a0_18 a0_19 a0_20 a1_0 a1_1 a1_2 a2_0 a2_1 a2_2) else (compositorref21_Both.j0 k (wrap64 (a0_18 * a3)) a0_0 a0_1 a0_2 a0_3 l0_4 a0_5 a0_6 a0_7 a0_8 a0_9 a0_10 a0_11 a0_12 a0_13 a0_14 a0_15 a0_16 a0_17 a0_18 a0_19 a0_20 a1_0 a1_1 a1_2 a2_0 a2_1 a2_2))
theorem compositorref21_Both.mono_l : ∀ k, (∀ y0 y1 y2 y3 y4 y5 y6 y7 y8 y9 y10 y11 y12 y13 y14 y15 y16 y17 y18 y19 y20 y21 y22 y23 y24 y25 y26 y27, LeO (compositorref21_Both.j0 k y0 y1 y2 y3 y4 y5 y6 y7 y8 y9 y10 y11 y12 y13 y14 y15 y16 y17 y18 y19 y20 y21 y22 y23 y24 y25 y26 y27) (compositorref21_Both.j0 (k + 1) y0 y1 y2 y3 y4 y5 y6 y7 y8 y9 y10 y11 y12 y13 y14 y15 y16 y17 y18 y19 y20 y21 y22 y23 y24 y25 y26 y27)) ∧ (∀ y0 y1 y2 y3 y4 y5 y6 y7 y8 y9 y10 y11 y12 y13 y14 y15 y16 y17 y18 y19 y20 y21 y22 y23 y24 y25 y26 y27 y28, LeO (compositorref21_Both.j1 k y0 y1 y2 y3 y4 y5 y6 y7 y8 y9 y10 y11 y12 y13 y14 y15 y16 y17 y18 y19 y20 y21 y22 y23 y24 y25 y26 y27 y28) (compositorref21_Both.j1 (k + 1) y0 y1 y2 y3 y4 y5 y6 y7 y8 y9 y10 y11 y12 y13 y14 y15 y16 y17 y18 y19 y20 y21 y22 y23 y24 y25 y26 y27 y28)) ∧ (∀ y0 y1 y2 y3 y4 y5 y6 y7 y8 y9 y10 y11 y12 y13 y14 y15 y16 y17 y18 y19 y20 y21 y22 y23 y24 y25 y26 y27, LeO (compositorref21_Both.j2 k y0 y1 y2 y3 y4 y5 y6 y7 y8 y9 y10 y11 y12 y13 y14 y15 y16 y17 y18 y19 y20 y21 y22 y23 y24 y25 y26 y27) (compositorref21_Both.j2 (k + 1) y0 y1 y2 y3 y4 y5 y6 y7 y8 y9 y10 y11 y12 y13 y14 y15 y16 y17 y18 y19 y20 y21 y22 y23 y24 y25 y26 y27)) ∧ (∀ y0 y1 y2 y3 y4 y5 y6 y7 y8 y9 y10 y11 y12 y13 y14 y15 y16 y17 y18 y19 y20 y21 y22 y23 y24 y25, LeO (compositorref21_Both.j3 k y0 y1 y2 y3 y4 y5 y6 y7 y8 y9 y10 y11 y12 y13 y14 y15 y16 y17 y18 y19 y20 y21 y22 y23 y24 y25) (compositorref21_Both.j3 (k + 1) y0 y1 y2 y3 y4 y5 y6 y7 y8 y9 y10 y11 y12 y13 y14 y15 y16 y17 y18 y19 y20 y21 y22 y23 y24 y25)) ∧ (∀ y0 y1 y2 y3 y4 y5 y6 y7 y8 y9 y10 y11 y12 y13 y14 y15 y16 y17 y18 y19 y20 y21 y22 y23 y24, LeO (compositorref21_Both.j4 k y0 y1 y2 y3 y4 y5 y6 y7 y8 y9 y10 y11 y12 y13 y14 y15 y16 y17 y18 y19 y20 y21 y22 y23 y24) (compositorref21_Both.j4 (k + 1) y0 y1 y2 y3 y4 y5 y6 y7 y8 y9 y10 y11 y12 y13 y14 y15 y16 y17 y18 y19 y20 y21 y22 y23 y24))
  | 0 => ⟨fun _ _ _ _ _ _ _ _ _ _ _ _ _ _ _ _ _ _ _ _ _ _ _ _ _ _ _ _ r h => by simp [compositorref21_Both.j0] at h, fun _ _ _ _ _ _ _ _ _ _ _ _ _ _ _ _ _ _ _ _ _ _ _ _ _ _ _ _ _ r h => by simp [compositorref21_Both.j1] at h, fun _ _ _ _ _ _ _ _ _ _ _ _ _ _ _ _ _ _ _ _ _ _ _ _ _ _ _ _ r h => by simp [compositorref21_Both.j2] at h, fun _ _ _ _ _ _ _ _ _ _ _ _ _ _ _ _ _ _ _ _ _ _ _ _ _ _ r h => by simp [compositorref21_Both.j3] at h, fun _ _ _ _ _ _ _ _ _ _ _ _ _ _ _ _ _ _ _ _ _ _ _ _ _ r h => by simp [compositorref21_Both.j4] at h⟩
  | k + 1 => by
    obtain ⟨ih0, ih1, ih2, ih3, ih4⟩ := compositorref21_Both.mono_l k
    refine ⟨?_, ?_, ?_, ?_, ?_⟩
    · intro y0 y1 y2 y3 y4 y5 y6 y7 y8 y9 y10 y11 y12 y13 y14 y15 y16 y17 y18 y19 y20 y21 y22 y23 y24 y25 y26 y27
      unfold compositorref21_Both.j0
      repeat' first
      | (with_reducible exact ih0 _ _ _ _ _ _ _ _ _ _ _ _ _ _ _ _ _ _ _ _ _ _ _ _ _ _ _ _)
      | (with_reducible exact ih1 _ _ _ _ _ _ _ _ _ _ _ _ _ _ _ _ _ _ _ _ _ _ _ _ _ _ _ _ _)
      | (with_reducible exact ih2 _ _ _ _ _ _ _ _ _ _ _ _ _ _ _ _ _ _ _ _ _ _ _ _ _ _ _ _)
      | (with_reducible exact ih3 _ _ _ _ _ _ _ _ _ _ _ _ _ _ _ _ _ _ _ _ _ _ _ _ _ _)
      | (with_reducible exact ih4 _ _ _ _ _ _ _ _ _ _ _ _ _ _ _ _ _ _ _ _ _ _ _ _ _)
      | (with_reducible exact LeO.refl _)
      | (with_reducible exact LeO.none _)
      | (with_reducible refine LeO.ite ?_ ?_)
      | (with_reducible refine LeO.bind ?_ (fun _ => ?_))
      | exact ih0 _ _ _ _ _ _ _ _ _ _ _ _ _ _ _ _ _ _ _ _ _ _ _ _ _ _ _ _
      | exact ih1 _ _ _ _ _ _ _ _ _ _ _ _ _ _ _ _ _ _ _ _ _ _ _ _ _ _ _ _ _
      | exact ih2 _ _ _ _ _ _ _ _ _ _ _ _ _ _ _ _ _ _ _ _ _ _ _ _ _ _ _ _
      | exact ih3 _ _ _ _ _ _ _ _ _ _ _ _ _ _ _ _ _ _ _ _ _ _ _ _ _ _
      | exact ih4 _ _ _ _ _ _ _ _ _ _ _ _ _ _ _ _ _ _ _ _ _ _ _ _ _
      | exact LeO.none _
      | refine LeO.ite ?_ ?_
      | refine LeO.bind ?_ (fun _ => ?_)
    · intro y0 y1 y2 y3 y4 y5 y6 y7 y8 y9 y10 y11 y12 y13 y14 y15 y16 y17 y18 y19 y20 y21 y22 y23 y24 y25 y26 y27 y28
      unfold compositorref21_Both.j1
      repeat' first
      | (with_reducible exact ih0 _ _ _ _ _ _ _ _ _ _ _ _ _ _ _ _ _ _ _ _ _ _ _ _ _ _ _ _)
      | (with_reducible exact ih1 _ _ _ _ _ _ _ _ _ _ _ _ _ _ _ _ _ _ _ _ _ _ _ _ _ _ _ _ _)
      | (with_reducible exact ih2 _ _ _ _ _ _ _ _ _ _ _ _ _ _ _ _ _ _ _ _ _ _ _ _ _ _ _ _)
      | (with_reducible exact ih3 _ _ _ _ _ _ _ _ _ _ _ _ _ _ _ _ _ _ _ _ _ _ _ _ _ _)
      | (with_reducible exact ih4 _ _ _ _ _ _ _ _ _ _ _ _ _ _ _ _ _ _ _ _ _ _ _ _ _)
      | (with_reducible exact LeO.refl _)
      | (with_reducible exact LeO.none _)
      | (with_reducible refine LeO.ite ?_ ?_)
      | (with_reducible refine LeO.bind ?_ (fun _ => ?_))
      | exact ih0 _ _ _ _ _ _ _ _ _ _ _ _ _ _ _ _ _ _ _ _ _ _ _ _ _ _ _ _
      | exact ih1 _ _ _ _ _ _ _ _ _ _ _ _ _ _ _ _ _ _ _ _ _ _ _ _ _ _ _ _ _
      | exact ih2 _ _ _ _ _ _ _ _ _ _ _ _ _ _ _ _ _ _ _ _ _ _ _ _ _ _ _ _
      | exact ih3 _ _ _ _ _ _ _ _ _ _ _ _ _ _ _ _ _ _ _ _ _ _ _ _ _ _
      | exact ih4 _ _ _ _ _ _ _ _ _ _ _ _ _ _ _ _ _ _ _ _ _ _ _ _ _
      | exact LeO.none _
      | refine LeO.ite ?_ ?_
      | refine LeO.bind ?_ (fun _ => ?_)
    · intro y0 y1 y2 y3 y4 y5 y6 y7 y8 y9 y10 y11 y12 y13 y14 y15 y16 y17 y18 y19 y20 y21 y22 y23 y24 y25 y26 y27
      unfold compositorref21_Both.j2
      repeat' first
      | (with_reducible exact ih0 _ _ _ _ _ _ _ _ _ _ _ _ _ _ _ _ _ _ _ _ _ _ _ _ _ _ _ _)
      | (with_reducible exact ih1 _ _ _ _ _ _ _ _ _ _ _ _ _ _ _ _ _ _ _ _ _ _ _ _ _ _ _ _ _)
      | (with_reducible exact ih2 _ _ _ _ _ _ _ _ _ _ _ _ _ _ _ _ _ _ _ _ _ _ _ _ _ _ _ _)
      | (with_reducible exact ih3 _ _ _ _ _ _ _ _ _ _ _ _ _ _ _ _ _ _ _ _ _ _ _ _ _ _)
      | (with_reducible exact ih4 _ _ _ _ _ _ _ _ _ _ _ _ _ _ _ _ _ _ _ _ _ _ _ _ _)
      | (with_reducible exact LeO.refl _)
      | (with_reducible exact LeO.none _)
      | (with_reducible refine LeO.ite ?_ ?_)
      | (with_reducible refine LeO.bind ?_ (fun _ => ?_))
      | exact ih0 _ _ _ _ _ _ _ _ _ _ _ _ _ _ _ _ _ _ _ _ _ _ _ _ _ _ _ _
      | exact ih1 _ _ _ _ _ _ _ _ _ _ _ _ _ _ _ _ _ _ _ _ _ _ _ _ _ _ _ _ _
      | exact ih2 _ _ _ _ _ _ _ _ _ _ _ _ _ _ _ _ _ _ _ _ _ _ _ _ _ _ _ _
      | exact ih3 _ _ _ _ _ _ _ _ _ _ _ _ _ _ _ _ _ _ _ _ _ _ _ _ _ _
      | exact ih4 _ _ _ _ _ _ _ _ _ _ _ _ _ _ _ _ _ _ _ _ _ _ _ _ _
      | exact LeO.none _
      | refine LeO.ite ?_ ?_
      | refine LeO.bind ?_ (fun _ => ?_)
    · intro y0 y1 y2 y3 y4 y5 y6 y7 y8 y9 y10 y11 y12 y13 y14 y15 y16 y17 y18 y19 y20 y21 y22 y23 y24 y25
      unfold compositorref21_Both.j3
      repeat' first
      | (with_reducible exact ih0 _ _ _ _ _ _ _ _ _ _ _ _ _ _ _ _ _ _ _ _ _ _ _ _ _ _ _ _)
      | (with_reducible exact ih1 _ _ _ _ _ _ _ _ _ _ _ _ _ _ _ _ _ _ _ _ _ _ _ _ _ _ _ _ _)
      | (with_reducible exact ih2 _ _ _ _ _ _ _ _ _ _ _ _ _ _ _ _ _ _ _ _ _ _ _ _ _ _ _ _)
      | (with_reducible exact ih3 _ _ _ _ _ _ _ _ _ _ _ _ _ _ _ _ _ _ _ _ _ _ _ _ _ _)
      | (with_reducible exact ih4 _ _ _ _ _ _ _ _ _ _ _ _ _ _ _ _ _ _ _ _ _ _ _ _ _)
      | (with_reducible exact LeO.refl _)
      | (with_reducible exact LeO.none _)
      | (with_reducible refine LeO.ite ?_ ?_)
      | (with_reducible refine LeO.bind ?_ (fun _ => ?_))
      | exact ih0 _ _ _ _ _ _ _ _ _ _ _ _ _ _ _ _ _ _ _ _ _ _ _ _ _ _ _ _
      | exact ih1 _ _ _ _ _ _ _ _ _ _ _ _ _ _ _ _ _ _ _ _ _ _ _ _ _ _ _ _ _
      | exact ih2 _ _ _ _ _ _ _ _ _ _ _ _ _ _ _ _ _ _ _ _ _ _ _ _ _ _ _ _
      | exact ih3 _ _ _ _ _ _ _ _ _ _ _ _ _ _ _ _ _ _ _ _ _ _ _ _ _ _
      | exact ih4 _ _ _ _ _ _ _ _ _ _ _ _ _ _ _ _ _ _ _ _ _ _ _ _ _
      | exact LeO.none _
      | refine LeO.ite ?_ ?_
      | refine LeO.bind ?_ (fun _ => ?_)
    · intro y0 y1 y2 y3 y4 y5 y6 y7 y8 y9 y10 y11 y12 y13 y14 y15 y16 y17 y18 y19 y20 y21 y22 y23 y24
      unfold compositorref21_Both.j4
      repeat' first
      | (with_reducible exact ih0 _ _ _ _ _ _ _ _ _ _ _ _ _ _ _ _ _ _ _ _ _ _ _ _ _ _ _ _)
      | (with_reducible exact ih1 _ _ _ _ _ _ _ _ _ _ _ _ _ _ _ _ _ _ _ _ _ _ _ _ _ _ _ _ _)
      | (with_reducible exact ih2 _ _ _ _ _ _ _ _ _ _ _ _ _ _ _ _ _ _ _ _ _ _ _ _ _ _ _ _)
      | (with_reducible exact ih3 _ _ _ _ _ _ _ _ _ _ _ _ _ _ _ _ _ _ _ _ _ _ _ _ _ _)
      | (with_reducible exact ih4 _ _ _ _ _ _ _ _ _ _ _ _ _ _ _ _ _ _ _ _ _ _ _ _ _)
      | (with_reducible exact LeO.refl _)
      | (with_reducible exact LeO.none _)
      | (with_reducible refine LeO.ite ?_ ?_)
      | (with_reducible refine LeO.bind ?_ (fun _ => ?_))
      | exact ih0 _ _ _ _ _ _ _ _ _ _ _ _ _ _ _ _ _ _ _ _ _ _ _ _ _ _ _ _
      | exact ih1 _ _ _ _ _ _ _ _ _ _ _ _ _ _ _ _ _ _ _ _ _ _ _ _ _ _ _ _ _
      | exact ih2 _ _ _ _ _ _ _ _ _ _ _ _ _ _ _ _ _ _ _ _ _ _ _ _ _ _ _ _
      | exact ih3 _ _ _ _ _ _ _ _ _ _ _ _ _ _ _ _ _ _ _ _ _ _ _ _ _ _
      | exact ih4 _ _ _ _ _ _ _ _ _ _ _ _ _ _ _ _ _ _ _ _ _ _ _ _ _
      | exact LeO.none _
      | refine LeO.ite ?_ ?_
      | refine LeO.bind ?_ (fun _ => ?_)
theorem compositorref21_Both.mono : ∀ a0 a1 a2 a3 a4 a5 a6 a7 a8 a9 a10 a11 a12 a13 a14 a15 a16 a17 a18 a19 a20 a21 a22 a23 a24 a25 a26 a27 k, LeO (compositorref21_Both.f k a0 a1 a2 a3 a4 a5 a6 a7 a8 a9 a10 a11 a12 a13 a14 a15 a16 a17 a18 a19 a20 a21 a22 a23 a24 a25 a26 a27) (compositorref21_Both.f (k + 1) a0 a1 a2 a3 a4 a5 a6 a7 a8 a9 a10 a11 a12 a13 a14 a15 a16 a17 a18 a19 a20 a21 a22 a23 a24 a25 a26 a27) := by
  intro a0 a1 a2 a3 a4 a5 a6 a7 a8 a9 a10 a11 a12 a13 a14 a15 a16 a17 a18 a19 a20 a21 a22 a23 a24 a25 a26 a27 k
  obtain ⟨ih0, ih1, ih2, ih3, ih4⟩ := compositorref21_Both.mono_l k
  unfold compositorref21_Both.f
  repeat' first
      | (with_reducible exact ih0 _ _ _ _ _ _ _ _ _ _ _ _ _ _ _ _ _ _ _ _ _ _ _ _ _ _ _ _)
      | (with_reducible exact ih1 _ _ _ _ _ _ _ _ _ _ _ _ _ _ _ _ _ _ _ _ _ _ _ _ _ _ _ _ _)
      | (with_reducible exact ih2 _ _ _ _ _ _ _ _ _ _ _ _ _ _ _ _ _ _ _ _ _ _ _ _ _ _ _ _)
      | (with_reducible exact ih3 _ _ _ _ _ _ _ _ _ _ _ _ _ _ _ _ _ _ _ _ _ _ _ _ _ _)
      | (with_reducible exact ih4 _ _ _ _ _ _ _ _ _ _ _ _ _ _ _ _ _ _ _ _ _ _ _ _ _)
      | (with_reducible exact LeO.refl _)
      | (with_reducible exact LeO.none _)
      | (with_reducible refine LeO.ite ?_ ?_)
      | (with_reducible refine LeO.bind ?_ (fun _ => ?_))
      | exact ih0 _ _ _ _ _ _ _ _ _ _ _ _ _ _ _ _ _ _ _ _ _ _ _ _ _ _ _ _
      | exact ih1 _ _ _ _ _ _ _ _ _ _ _ _ _ _ _ _ _ _ _ _ _ _ _ _ _ _ _ _ _
      | exact ih2 _ _ _ _ _ _ _ _ _ _ _ _ _ _ _ _ _ _ _ _ _ _ _ _ _ _ _ _
      | exact ih3 _ _ _ _ _ _ _ _ _ _ _ _ _ _ _ _ _ _ _ _ _ _ _ _ _ _
      | exact ih4 _ _ _ _ _ _ _ _ _ _ _ _ _ _ _ _ _ _ _ _ _ _ _ _ _
      | exact LeO.none _
      | refine LeO.ite ?_ ?_
      | refine LeO.bind ?_ (fun _ => ?_)
set_option maxHeartbeats 8000000 in
set_option maxRecDepth 100000 in
theorem compositorref21_Both.calls (k : Nat) (a0_0 : Int) (a0_1 : Int) (a0_2 : Int) (a0_3 : Int) (A0_4 : Option Addr) (c0_4 : Nat) (l0_4 : List (S47)) (a0_5 : Int) (a0_6 : Int) (a0_7 : Int) (a0_8 : Int) (a0_9 : Int) (a0_10 : Int) (a0_11 : Int) (a0_12 : Int) (a0_13 : Int) (a0_14 : Int) (a0_15 : Int) (a0_16 : Int) (a0_17 : Int) (a0_18 : Int) (a0_19 : Int) (a0_20 : Int) (a1_0 : Int) (a1_1 : Int) (a1_2 : Int) (a2_0 : Int) (a2_1 : Int) (a2_2 : Int) (a3 : Int) (r : Int) (w : World) (hr0_4 : Kd.C k47 w A0_4 l0_4.length l0_4) (hc0_4 : l0_4.length ≤ c0_4) (h : compositorref21_Both.f k a0_0 a0_1 a0_2 a0_3 l0_4 a0_5 a0_6 a0_7 a0_8 a0_9 a0_10 a0_11 a0_12 a0_13 a0_14 a0_15 a0_16 a0_17 a0_18 a0_19 a0_20 a1_0 a1_1 a1_2 a2_0 a2_1 a2_2 a3 = some r) :
    Calls Try.prog 25 #[.agg #[.int .i64 a0_0, .int .i64 a0_1, .int .i64 a0_2, .int .i64 a0_3, .slice A0_4 l0_4.length c0_4, .int .i64 a0_5, .int .i64 a0_6, .int .i64 a0_7, .int .i64 a0_8, .int .i64 a0_9, .int .i64 a0_10, .int .i64 a0_11, .int .i64 a0_12, .int .i64 a0_13, .int .i64 a0_14, .int .i64 a0_15, .int .i64 a0_16, .int .i64 a0_17, .int .i64 a0_18, .int .i64 a0_19, .int .i64 a0_20], .agg #[.int .i64 a1_0, .int .i64 a1_1, .int .i64 a1_2], .agg #[.int .i64 a2_0, .int .i64 a2_1, .int .i64 a2_2], .int .i64 a3] w fun e w' => e = .returned (.int .i64 r) ∧ Below w.heap.size w w' := by
  have hu24 := Try.underlying24
  have hu26 := Try.underlying26
  have HR0_4 := Aside0.mk hr0_4
  have HC0_4 := Aside0.mk hc0_4
  clear hr0_4 hc0_4
  have HB := Aside0.mk (Below.refl w.heap.size w)
  have H : ((compositorref21_far.f a1_1 a2_1).bind fun t197 => (if t197 = true then (compositorref21_Both.j0 k (wrap64 ((wrap64 (a0_18 * a3)) + a0_15)) a0_0 a0_1 a0_2 a0_3 l0_4 a0_5 a0_6 a0_7 a0_8 a0_9 a0_10 a0_11 a0_12 a0_13 a0_14 a0_15 a0_16 a0_17 a0_18 a0_19 a0_20 a1_0 a1_1 a1_2 a2_0 a2_1 a2_2) else (compositorref21_Both.j0 k (wrap64 (a0_18 * a3)) a0_0 a0_1 a0_2 a0_3 l0_4 a0_5 a0_6 a0_7 a0_8 a0_9 a0_10 a0_11 a0_12 a0_13 a0_14 a0_15 a0_16 a0_17 a0_18 a0_19 a0_20 a1_0 a1_1 a1_2 a2_0 a2_1 a2_2))) = some r := h
  clear h
  replace H := Option.bind_eq_some_iff.mp H
  obtain ⟨t197, A50, H⟩ := H
  replace H : (if t197 = true then (compositorref21_Both.j0 k (wrap64 ((wrap64 (a0_18 * a3)) + a0_15)) a0_0 a0_1 a0_2 a0_3 l0_4 a0_5 a0_6 a0_7 a0_8 a0_9 a0_10 a0_11 a0_12 a0_13 a0_14 a0_15 a0_16 a0_17 a0_18 a0_19 a0_20 a1_0 a1_1 a1_2 a2_0 a2_1 a2_2) else (compositorref21_Both.j0 k (wrap64 (a0_18 * a3)) a0_0 a0_1 a0_2 a0_3 l0_4 a0_5 a0_6 a0_7 a0_8 a0_9 a0_10 a0_11 a0_12 a0_13 a0_14 a0_15 a0_16 a0_17 a0_18 a0_19 a0_20 a1_0 a1_1 a1_2 a2_0 a2_1 a2_2)) = some r := H
  have A5 := Aside0.mk A50
  clear A50
  have HC6 := Aside0.mk H
  clear H
  go_enter Try.func25, Try.ntmps25
  go_upto_if 18 with (first | ((with_reducible refine gate_load (T := 24) rfl ?_); refine load_row_event (by first | rfl | (go_simp; done)) 24 _ rfl gb194 rfl 24 _ (0, 0) _ (by (with_reducible repeat (first | refine blk_drewN ?_ _ | refine blk_drew ?_ | refine blk_alloc ?_ _)); first | with_reducible exact BK194.out | with_reducible exact (blk_far BK194.out NB194_195.out _) | with_reducible exact (blk_far (blk_far BK194.out NB194_195.out _) NB194_195.out _) | with_reducible exact (blk_far (blk_far (blk_far BK194.out NB194_195.out _) NB194_195.out _) NB194_195.out _) | with_reducible exact (blk_far BK194.out NB194_196.out _) | with_reducible exact (blk_far (blk_far BK194.out NB194_196.out _) NB194_196.out _) | with_reducible exact (blk_far (blk_far (blk_far BK194.out NB194_196.out _) NB194_196.out _) NB194_196.out _)) hu24 rfl (by kernel_rfl) ?_) | ((with_reducible refine gate_store (t := 24) rfl ?_); refine store_row_event (base := w.heap.size) rfl rfl 24 _ _ rfl (g := gb194) (by rfl) (by rfl) (by (with_reducible repeat (first | refine blk_drewN ?_ _ | refine blk_drew ?_ | refine blk_alloc ?_ _)); exact BK194.out) (by kernel_rfl) (by rfl) (by rfl) GE194.out ?_; intro ws_ hs_ hk_ hb_; have n0_ := Aside0.mk (Below.trans (by repeat (first | (with_reducible first | exact HB.out | apply below_alloc | apply pw_below_drewN | apply below_drew1) | exact HB.out)) hb_); clear HB; have HB := n0_; clear n0_; clear BK194; have BK194 := Aside0.mk hs_; clear hs_; (try (have z_ := Aside0.mk (blk_else BK195.out NB195_194.out hk_); clear BK195; have BK195 := z_; clear z_)); (try (have z_ := Aside0.mk (blk_else BK196.out NB196_194.out hk_); clear BK196; have BK196 := z_; clear z_)); have hxs_ := blk_cell BK194.out; have hys_ := blk_frozen BK194.out; clear hk_ hb_) | ((with_reducible refine gate_dst (N := 4) rfl ?_); refine box_event ?hg (N := 4) ?hd (cs := #[.int .i64 a0_0, .int .i64 a0_1, .int .i64 a0_2, .int .i64 a0_3, .slice A0_4 l0_4.length c0_4, .int .i64 a0_5, .int .i64 a0_6, .int .i64 a0_7, .int .i64 a0_8, .int .i64 a0_9, .int .i64 a0_10, .int .i64 a0_11, .int .i64 a0_12, .int .i64 a0_13, .int .i64 a0_14, .int .i64 a0_15, .int .i64 a0_16, .int .i64 a0_17, .int .i64 a0_18, .int .i64 a0_19, .int .i64 a0_20]) (t := 24) ?hr ?_; (case hd => rfl); (case hg => rfl); (case hr => first | (go_simp; done) | (go_simp; rfl)); intro gb194 hg w7 hbox hb; have n0_ := Aside0.mk (below_step (by repeat (first | (with_reducible first | exact HB.out | apply below_alloc | apply pw_below_drewN | apply below_drew1) | exact HB.out)) hb); have n1_ := Aside0.mk (hbox); have n2_ := Aside0.mk ((by rw [hg]; exact (below_size (by repeat (first | (with_reducible first | exact HB.out | apply below_alloc | apply pw_below_drewN | apply below_drew1) | exact HB.out))) : w.heap.size ≤ gb194)); have n3_ := Aside0.mk ((by rw [hg]; exact (below_size (by repeat (first | (with_reducible first | exact HB.out | apply below_alloc | apply pw_below_drewN | apply below_drew1) | exact HB.out))) : w.heap.size ≤ gb194)); clear HB; have HB := n0_; have BK194 := n1_; have GW194 := n2_; have GE194 := n3_; clear n0_ n1_ n2_ n3_; clear hb hbox hg) | ((with_reducible refine gate_dst (N := 5) rfl ?_); refine box_event ?hg (N := 5) ?hd (cs := #[.int .i64 a1_0, .int .i64 a1_1, .int .i64 a1_2]) (t := 26) ?hr ?_; (case hd => rfl); (case hg => rfl); (case hr => first | (go_simp; done) | (go_simp; rfl)); intro gb195 hg w8 hbox hb; have n0_ := Aside0.mk (blk_below (g := gb194) (o := .cells #[.int .i64 a0_0, .int .i64 a0_1, .int .i64 a0_2, .int .i64 a0_3, .slice A0_4 l0_4.length c0_4, .int .i64 a0_5, .int .i64 a0_6, .int .i64 a0_7, .int .i64 a0_8, .int .i64 a0_9, .int .i64 a0_10, .int .i64 a0_11, .int .i64 a0_12, .int .i64 a0_13, .int .i64 a0_14, .int .i64 a0_15, .int .i64 a0_16, .int .i64 a0_17, .int .i64 a0_18, .int .i64 a0_19, .int .i64 a0_20] 24 (0, 0)) (by (with_reducible repeat (first | refine blk_drewN ?_ _ | refine blk_drew ?_ | refine blk_alloc ?_ _)); exact BK194.out) hb); have n1_ := Aside0.mk (below_step (by repeat (first | (with_reducible first | exact HB.out | apply below_alloc | apply pw_below_drewN | apply below_drew1 | refine below_set ?_ GE194.out) | exact HB.out)) hb); have n2_ := Aside0.mk (hbox); have n3_ := Aside0.mk ((by rw [hg]; exact (below_size (by repeat (first | (with_reducible first | exact HB.out | apply below_alloc | apply pw_below_drewN | apply below_drew1 | refine below_set ?_ GE194.out) | exact HB.out))) : w.heap.size ≤ gb195)); have n4_ := Aside0.mk ((by rw [hg]; exact (below_size (by repeat (first | (with_reducible first | exact HB.out | apply below_alloc | apply pw_below_drewN | apply below_drew1 | refine below_set ?_ GE194.out) | exact HB.out))) : w.heap.size ≤ gb195)); have n5_ := Aside0.mk ((by rw [hg]; exact Nat.ne_of_lt (blk_lt (g := gb194) (o := .cells #[.int .i64 a0_0, .int .i64 a0_1, .int .i64 a0_2, .int .i64 a0_3, .slice A0_4 l0_4.length c0_4, .int .i64 a0_5, .int .i64 a0_6, .int .i64 a0_7, .int .i64 a0_8, .int .i64 a0_9, .int .i64 a0_10, .int .i64 a0_11, .int .i64 a0_12, .int .i64 a0_13, .int .i64 a0_14, .int .i64 a0_15, .int .i64 a0_16, .int .i64 a0_17, .int .i64 a0_18, .int .i64 a0_19, .int .i64 a0_20] 24 (0, 0)) (by (with_reducible repeat (first | refine blk_drewN ?_ _ | refine blk_drew ?_ | refine blk_alloc ?_ _)); exact BK194.out)) : gb194 ≠ gb195)); have n6_ := Aside0.mk ((by rw [hg]; exact Nat.ne_of_gt (blk_lt (g := gb194) (o := .cells #[.int .i64 a0_0, .int .i64 a0_1, .int .i64 a0_2, .int .i64 a0_3, .slice A0_4 l0_4.length c0_4, .int .i64 a0_5, .int .i64 a0_6, .int .i64 a0_7, .int .i64 a0_8, .int .i64 a0_9, .int .i64 a0_10, .int .i64 a0_11, .int .i64 a0_12, .int .i64 a0_13, .int .i64 a0_14, .int .i64 a0_15, .int .i64 a0_16, .int .i64 a0_17, .int .i64 a0_18, .int .i64 a0_19, .int .i64 a0_20] 24 (0, 0)) (by (with_reducible repeat (first | refine blk_drewN ?_ _ | refine blk_drew ?_ | refine blk_alloc ?_ _)); exact BK194.out)) : gb195 ≠ gb194)); clear BK194; clear HB; have BK194 := n0_; have HB := n1_; have BK195 := n2_; have GW195 := n3_; have GE195 := n4_; have NB194_195 := n5_; have NB195_194 := n6_; clear n0_ n1_ n2_ n3_ n4_ n5_ n6_; clear hb hbox hg) | ((with_reducible refine gate_dst (N := 6) rfl ?_); refine box_event ?hg (N := 6) ?hd (cs := #[.int .i64 a2_0, .int .i64 a2_1, .int .i64 a2_2]) (t := 26) ?hr ?_; (case hd => rfl); (case hg => rfl); (case hr => first | (go_simp; done) | (go_simp; rfl)); intro gb196 hg w9 hbox hb; have n0_ := Aside0.mk (blk_below (g := gb194) (o := .cells #[.int .i64 a0_0, .int .i64 a0_1, .int .i64 a0_2, .int .i64 a0_3, .slice A0_4 l0_4.length c0_4, .int .i64 a0_5, .int .i64 a0_6, .int .i64 a0_7, .int .i64 a0_8, .int .i64 a0_9, .int .i64 a0_10, .int .i64 a0_11, .int .i64 a0_12, .int .i64 a0_13, .int .i64 a0_14, .int .i64 a0_15, .int .i64 a0_16, .int .i64 a0_17, .int .i64 a0_18, .int .i64 a0_19, .int .i64 a0_20] 24 (0, 0)) (by (with_reducible repeat (first | refine blk_drewN ?_ _ | refine blk_drew ?_ | refine blk_alloc ?_ _)); exact BK194.out) hb); have n1_ := Aside0.mk (blk_below (g := gb195) (o := .cells #[.int .i64 a1_0, .int .i64 a1_1, .int .i64 a1_2] 26 (0, 0)) (by (with_reducible repeat (first | refine blk_drewN ?_ _ | refine blk_drew ?_ | refine blk_alloc ?_ _)); exact BK195.out) hb); have n2_ := Aside0.mk (below_step (by repeat (first | (with_reducible first | exact HB.out | apply below_alloc | apply pw_below_drewN | apply below_drew1 | refine below_set ?_ GE194.out | refine below_set ?_ GE195.out) | exact HB.out)) hb); have n3_ := Aside0.mk (hbox); have n4_ := Aside0.mk ((by rw [hg]; exact (below_size (by repeat (first | (with_reducible first | exact HB.out | apply below_alloc | apply pw_below_drewN | apply below_drew1 | refine below_set ?_ GE194.out | refine below_set ?_ GE195.out) | exact HB.out))) : w.heap.size ≤ gb196)); have n5_ := Aside0.mk ((by rw [hg]; exact (below_size (by repeat (first | (with_reducible first | exact HB.out | apply below_alloc | apply pw_below_drewN | apply below_drew1 | refine below_set ?_ GE194.out | refine below_set ?_ GE195.out) | exact HB.out))) : w.heap.size ≤ gb196)); have n6_ := Aside0.mk ((by rw [hg]; exact Nat.ne_of_lt (blk_lt (g := gb194) (o := .cells #[.int .i64 a0_0, .int .i64 a0_1, .int .i64 a0_2, .int .i64 a0_3, .slice A0_4 l0_4.length c0_4, .int .i64 a0_5, .int .i64 a0_6, .int .i64 a0_7, .int .i64 a0_8, .int .i64 a0_9, .int .i64 a0_10, .int .i64 a0_11, .int .i64 a0_12, .int .i64 a0_13, .int .i64 a0_14, .int .i64 a0_15, .int .i64 a0_16, .int .i64 a0_17, .int .i64 a0_18, .int .i64 a0_19, .int .i64 a0_20] 24 (0, 0)) (by (with_reducible repeat (first | refine blk_drewN ?_ _ | refine blk_drew ?_ | refine blk_alloc ?_ _)); exact BK194.out)) : gb194 ≠ gb196)); have n7_ := Aside0.mk ((by rw [hg]; exact Nat.ne_of_gt (blk_lt (g := gb194) (o := .cells #[.int .i64 a0_0, .int .i64 a0_1, .int .i64 a0_2, .int .i64 a0_3, .slice A0_4 l0_4.length c0_4, .int .i64 a0_5, .int .i64 a0_6, .int .i64 a0_7, .int .i64 a0_8, .int .i64 a0_9, .int .i64 a0_10, .int .i64 a0_11, .int .i64 a0_12, .int .i64 a0_13, .int .i64 a0_14, .int .i64 a0_15, .int .i64 a0_16, .int .i64 a0_17, .int .i64 a0_18, .int .i64 a0_19, .int .i64 a0_20] 24 (0, 0)) (by (with_reducible repeat (first | refine blk_drewN ?_ _ | refine blk_drew ?_ | refine blk_alloc ?_ _)); exact BK194.out)) : gb196 ≠ gb194)); have n8_ := Aside0.mk ((by rw [hg]; exact Nat.ne_of_lt (blk_lt (g := gb195) (o := .cells #[.int .i64 a1_0, .int .i64 a1_1, .int .i64 a1_2] 26 (0, 0)) (by (with_reducible repeat (first | refine blk_drewN ?_ _ | refine blk_drew ?_ | refine blk_alloc ?_ _)); exact BK195.out)) : gb195 ≠ gb196)); have n9_ := Aside0.mk ((by rw [hg]; exact Nat.ne_of_gt (blk_lt (g := gb195) (o := .cells #[.int .i64 a1_0, .int .i64 a1_1, .int .i64 a1_2] 26 (0, 0)) (by (with_reducible repeat (first | refine blk_drewN ?_ _ | refine blk_drew ?_ | refine blk_alloc ?_ _)); exact BK195.out)) : gb196 ≠ gb195)); clear BK194; clear BK195; clear HB; have BK194 := n0_; have BK195 := n1_; have HB := n2_; have BK196 := n3_; have GW196 := n4_; have GE196 := n5_; have NB194_196 := n6_; have NB196_194 := n7_; have NB195_196 := n8_; have NB196_195 := n9_; clear n0_ n1_ n2_ n3_ n4_ n5_ n6_ n7_ n8_ n9_; clear hb hbox hg; have hnb10 := NB194_195.out; have hnc10 := NB195_194.out; have hnb11 := NB194_196.out; have hnc11 := NB196_194.out; have hcz12_0 := blk_cell BK194.out; have hfz12_0 := blk_frozen BK194.out; have hnb13 := NB195_196.out; have hnc13 := NB196_195.out; have hcz14_0 : w9.cell? ⟨gb195, 0, none⟩ = some (.int .i64 a1_0) := (blk_cell BK195.out 0).trans rfl; have hcz14_1 : w9.cell? ⟨gb195, 1, none⟩ = some (.int .i64 a1_1) := (blk_cell BK195.out 1).trans rfl; have hcz14_2 : w9.cell? ⟨gb195, 2, none⟩ = some (.int .i64 a1_2) := (blk_cell BK195.out 2).trans rfl; have hfz14_0 := blk_frozen BK195.out 0; have hfz14_1 := blk_frozen BK195.out 1; have hfz14_2 := blk_frozen BK195.out 2; have hcz15_0 : w9.cell? ⟨gb196, 0, none⟩ = some (.int .i64 a2_0) := (blk_cell BK196.out 0).trans rfl; have hcz15_1 : w9.cell? ⟨gb196, 1, none⟩ = some (.int .i64 a2_1) := (blk_cell BK196.out 1).trans rfl; have hcz15_2 : w9.cell? ⟨gb196, 2, none⟩ = some (.int .i64 a2_2) := (blk_cell BK196.out 2).trans rfl; have hfz15_0 := blk_frozen BK196.out 0; have hfz15_1 := blk_frozen BK196.out 1; have hfz15_2 := blk_frozen BK196.out 2) | ((with_reducible refine gate_callee (f := 31) rfl ?_); refine goesL_ (some 18) rfl rfl Try.func31 (by kernel_rfl) rfl #[.int .i64 a1_1, .int .i64 a2_1] rfl (by (try simp only [List.map_toArray, List.map_cons, List.map_nil]); first | done | rfl | (simp only [List.length_drop, List.length_take]; rfl)) ?_; (with_reducible refine (compositorref21_far.calls a1_1 a2_1 t197 _ A5.out).mono ?_); rintro e w16 ⟨rfl, hb⟩; refine ⟨_, rfl, ?_⟩; have n0_ := Aside0.mk (blk_below (g := gb194) (o := .cells #[.int .i64 a0_0, .int .i64 a0_1, .int .i64 a0_2, .int .i64 a0_3, .slice A0_4 l0_4.length c0_4, .int .i64 a0_5, .int .i64 a0_6, .int .i64 a0_7, .int .i64 a0_8, .int .i64 a0_9, .int .i64 a0_10, .int .i64 a0_11, .int .i64 a0_12, .int .i64 a0_13, .int .i64 a0_14, .int .i64 a0_15, .int .i64 a0_16, .int .i64 a0_17, .int .i64 a0_18, .int .i64 a0_19, .int .i64 a0_20] 24 (0, 0)) (by (with_reducible repeat (first | refine blk_drewN ?_ _ | refine blk_drew ?_ | refine blk_alloc ?_ _)); exact BK194.out) hb); have n1_ := Aside0.mk (blk_below (g := gb195) (o := .cells #[.int .i64 a1_0, .int .i64 a1_1, .int .i64 a1_2] 26 (0, 0)) (by (with_reducible repeat (first | refine blk_drewN ?_ _ | refine blk_drew ?_ | refine blk_alloc ?_ _)); exact BK195.out) hb); have n2_ := Aside0.mk (blk_below (g := gb196) (o := .cells #[.int .i64 a2_0, .int .i64 a2_1, .int .i64 a2_2] 26 (0, 0)) (by (with_reducible repeat (first | refine blk_drewN ?_ _ | refine blk_drew ?_ | refine blk_alloc ?_ _)); exact BK196.out) hb); have n3_ := Aside0.mk (below_step (by repeat (first | (with_reducible first | exact HB.out | apply below_alloc | apply pw_below_drewN | apply below_drew1 | refine below_set ?_ GE194.out | refine below_set ?_ GE195.out | refine below_set ?_ GE196.out) | exact HB.out)) hb); clear BK194; clear BK195; clear BK196; clear HB; have BK194 := n0_; have BK195 := n1_; have BK196 := n2_; have HB := n3_; clear n0_ n1_ n2_ n3_; (try clear hb); (try clear hb2); (try clear hk); (try clear hi)))
  (try simp only [Act.put, List.setIfInBounds_toArray, List.set_cons_zero, List.set_cons_succ])
  go_cut [9] (fun v9 wc => ∃ (kq : Nat) (x9_5 : Int), v9 = .int .i64 x9_5 ∧ Aside0 (compositorref21_Both.j0 kq x9_5 a0_0 a0_1 a0_2 a0_3 l0_4 a0_5 a0_6 a0_7 a0_8 a0_9 a0_10 a0_11 a0_12 a0_13 a0_14 a0_15 a0_16 a0_17 a0_18 a0_19 a0_20 a1_0 a1_1 a1_2 a2_0 a2_1 a2_2 = some r) ∧ Aside0 (kq ≤ k) ∧ Aside0 (wc.heap[gb194]? = some (.cells #[.int .i64 a0_0, .int .i64 a0_1, .int .i64 a0_2, .int .i64 a0_3, (.slice A0_4 l0_4.length c0_4), .int .i64 a0_5, .int .i64 a0_6, .int .i64 a0_7, .int .i64 a0_8, .int .i64 a0_9, .int .i64 a0_10, .int .i64 a0_11, .int .i64 a0_12, .int .i64 a0_13, .int .i64 a0_14, .int .i64 a0_15, .int .i64 a0_16, .int .i64 a0_17, .int .i64 a0_18, .int .i64 a0_19, .int .i64 a0_20] 24 (0, 0))) ∧ Aside0 (wc.heap[gb195]? = some (.cells #[.int .i64 a1_0, .int .i64 a1_1, .int .i64 a1_2] 26 (0, 0))) ∧ Aside0 (wc.heap[gb196]? = some (.cells #[.int .i64 a2_0, .int .i64 a2_1, .int .i64 a2_2] 26 (0, 0))) ∧ Aside0 (Below w.heap.size w wc))
  case first => as_aux_lemma =>
    have H := HC6.out
    clear HC6
    by_cases c17 : t197 = true
    · subst c17
      have H1 : (compositorref21_Both.j0 k (wrap64 ((wrap64 (a0_18 * a3)) + a0_15)) a0_0 a0_1 a0_2 a0_3 l0_4 a0_5 a0_6 a0_7 a0_8 a0_9 a0_10 a0_11 a0_12 a0_13 a0_14 a0_15 a0_16 a0_17 a0_18 a0_19 a0_20 a1_0 a1_1 a1_2 a2_0 a2_1 a2_2) = some r := by rw [if_pos rfl] at H; exact H
      clear H
      have H := H1
      clear H1
      have H' := Aside0.mk H
      clear H
      have hnb18 := NB194_195.out
      have hnc18 := NB195_194.out
      have hnb19 := NB194_196.out
      have hnc19 := NB196_194.out
      have hcz20_0 := blk_cell BK194.out
      have hfz20_0 := blk_frozen BK194.out
      go_wp2
      go_meet
      case rel => exact ⟨_, (wrap64 ((wrap64 (a0_18 * a3)) + a0_15)), (by first | rfl | (simp; done) | (simp [*]; done)), H', ⟨by first | omega | exact Nat.le_refl _⟩, ⟨by (with_reducible repeat (first | refine blk_drewN ?_ _ | refine blk_drew ?_ | refine blk_alloc ?_ _)); exact BK194.out⟩, ⟨by (with_reducible repeat (first | refine blk_drewN ?_ _ | refine blk_drew ?_ | refine blk_alloc ?_ _)); exact BK195.out⟩, ⟨by (with_reducible repeat (first | refine blk_drewN ?_ _ | refine blk_drew ?_ | refine blk_alloc ?_ _)); exact BK196.out⟩, ⟨by repeat (first | (with_reducible first | exact HB.out | apply below_alloc | apply pw_below_drewN | apply below_drew1 | refine below_set ?_ GE194.out | refine below_set ?_ GE195.out | refine below_set ?_ GE196.out) | exact HB.out)⟩⟩
    · replace c17 := Bool.eq_false_iff.mpr c17
      subst c17
      have H1 : (compositorref21_Both.j0 k (wrap64 (a0_18 * a3)) a0_0 a0_1 a0_2 a0_3 l0_4 a0_5 a0_6 a0_7 a0_8 a0_9 a0_10 a0_11 a0_12 a0_13 a0_14 a0_15 a0_16 a0_17 a0_18 a0_19 a0_20 a1_0 a1_1 a1_2 a2_0 a2_1 a2_2) = some r := by rw [if_neg (show ¬ (false = true) by decide)] at H; exact H
      clear H
      have H := H1
      clear H1
      have H' := Aside0.mk H
      clear H
      go_wp2
      go_meet
      case rel => exact ⟨_, (wrap64 (a0_18 * a3)), (by first | rfl | (simp; done) | (simp [*]; done)), H', ⟨by first | omega | exact Nat.le_refl _⟩, ⟨by (with_reducible repeat (first | refine blk_drewN ?_ _ | refine blk_drew ?_ | refine blk_alloc ?_ _)); exact BK194.out⟩, ⟨by (with_reducible repeat (first | refine blk_drewN ?_ _ | refine blk_drew ?_ | refine blk_alloc ?_ _)); exact BK195.out⟩, ⟨by (with_reducible repeat (first | refine blk_drewN ?_ _ | refine blk_drew ?_ | refine blk_alloc ?_ _)); exact BK196.out⟩, ⟨by repeat (first | (with_reducible first | exact HB.out | apply below_alloc | apply pw_below_drewN | apply below_drew1 | refine below_set ?_ GE194.out | refine below_set ?_ GE195.out | refine below_set ?_ GE196.out) | exact HB.out)⟩⟩
  case rest => as_aux_lemma =>
    clear HC6
    try clear c1
    try clear c2
    try clear p2
    try clear c3
    try clear p6
    try clear c10
    try clear c11
    try clear c13
    try clear c17
    try clear c18
    try clear c19
    try clear hcz12_0
    try clear hcz12_1
    try clear hcz12_10
    try clear hcz12_11
    try clear hcz12_12
    try clear hcz12_13
    try clear hcz12_14
    try clear hcz12_15
    try clear hcz12_16
    try clear hcz12_17
    try clear hcz12_18
    try clear hcz12_19
    try clear hcz12_2
    try clear hcz12_20
    try clear hcz12_3
    try clear hcz12_4
    try clear hcz12_5
    try clear hcz12_6
    try clear hcz12_7
    try clear hcz12_8
    try clear hcz12_9
    try clear hcz14_0
    try clear hcz14_1
    try clear hcz14_2
    try clear hcz15_0
    try clear hcz15_1
    try clear hcz15_2
    try clear hcz20_0
    try clear hcz20_1
    try clear hcz20_10
    try clear hcz20_11
    try clear hcz20_12
    try clear hcz20_13
    try clear hcz20_14
    try clear hcz20_15
    try clear hcz20_16
    try clear hcz20_17
    try clear hcz20_18
    try clear hcz20_19
    try clear hcz20_2
    try clear hcz20_20
    try clear hcz20_3
    try clear hcz20_4
    try clear hcz20_5
    try clear hcz20_6
    try clear hcz20_7
    try clear hcz20_8
    try clear hcz20_9
    try clear hfz12_0
    try clear hfz12_1
    try clear hfz12_10
    try clear hfz12_11
    try clear hfz12_12
    try clear hfz12_13
    try clear hfz12_14
    try clear hfz12_15
    try clear hfz12_16
    try clear hfz12_17
    try clear hfz12_18
    try clear hfz12_19
    try clear hfz12_2
    try clear hfz12_20
    try clear hfz12_3
    try clear hfz12_4
    try clear hfz12_5
    try clear hfz12_6
    try clear hfz12_7
    try clear hfz12_8
    try clear hfz12_9
    try clear hfz14_0
    try clear hfz14_1
    try clear hfz14_2
    try clear hfz15_0
    try clear hfz15_1
    try clear hfz15_2
    try clear hfz20_0
    try clear hfz20_1
    try clear hfz20_10
    try clear hfz20_11
    try clear hfz20_12
    try clear hfz20_13
    try clear hfz20_14
    try clear hfz20_15
    try clear hfz20_16
    try clear hfz20_17
    try clear hfz20_18
    try clear hfz20_19
    try clear hfz20_2
    try clear hfz20_20
    try clear hfz20_3
    try clear hfz20_4
    try clear hfz20_5
    try clear hfz20_6
    try clear hfz20_7
    try clear hfz20_8
    try clear hfz20_9
    obtain ⟨kq, x9_5, rfl, HA, HJ5, BK194, BK195, BK196, HB⟩ := hcut
    cases kq with
    | zero => exact absurd HA.out (by simp [compositorref21_Both.j0])
    | succ kj5 =>
      have H := HA.out
      clear HA
      simp only [compositorref21_Both.j0] at H
      have HC21 := Aside0.mk H
      clear H
      go_upto_region 4 with (fail)
      go_cut [30] (fun v30 wc => ∃ (kq : Nat) (x30_20 : Bool), v30 = .bool x30_20 ∧ Aside0 (compositorref21_Both.j1 kq x9_5 x30_20 a0_0 a0_1 a0_2 a0_3 l0_4 a0_5 a0_6 a0_7 a0_8 a0_9 a0_10 a0_11 a0_12 a0_13 a0_14 a0_15 a0_16 a0_17 a0_18 a0_19 a0_20 a1_0 a1_1 a1_2 a2_0 a2_1 a2_2 = some r) ∧ Aside0 (kq ≤ kj5) ∧ Aside0 (wc.heap[gb194]? = some (.cells #[.int .i64 a0_0, .int .i64 a0_1, .int .i64 a0_2, .int .i64 a0_3, (.slice A0_4 l0_4.length c0_4), .int .i64 a0_5, .int .i64 a0_6, .int .i64 a0_7, .int .i64 a0_8, .int .i64 a0_9, .int .i64 a0_10, .int .i64 a0_11, .int .i64 a0_12, .int .i64 a0_13, .int .i64 a0_14, .int .i64 a0_15, .int .i64 a0_16, .int .i64 a0_17, .int .i64 a0_18, .int .i64 a0_19, .int .i64 a0_20] 24 (0, 0))) ∧ Aside0 (wc.heap[gb195]? = some (.cells #[.int .i64 a1_0, .int .i64 a1_1, .int .i64 a1_2] 26 (0, 0))) ∧ Aside0 (wc.heap[gb196]? = some (.cells #[.int .i64 a2_0, .int .i64 a2_1, .int .i64 a2_2] 26 (0, 0))) ∧ Aside0 (Below w.heap.size w wc))
      case first => as_aux_lemma =>
        have H := HC21.out
        clear HC21
        replace H := Option.bind_eq_some_iff.mp H
        obtain ⟨t198, A220, H⟩ := H
        replace H : (if t198 = true then ((compositorref21_hyphen.f a2_0).bind fun t199 => (compositorref21_Both.j1 kj5 x9_5 t199 a0_0 a0_1 a0_2 a0_3 l0_4 a0_5 a0_6 a0_7 a0_8 a0_9 a0_10 a0_11 a0_12 a0_13 a0_14 a0_15 a0_16 a0_17 a0_18 a0_19 a0_20 a1_0 a1_1 a1_2 a2_0 a2_1 a2_2)) else (compositorref21_Both.j1 kj5 x9_5 false a0_0 a0_1 a0_2 a0_3 l0_4 a0_5 a0_6 a0_7 a0_8 a0_9 a0_10 a0_11 a0_12 a0_13 a0_14 a0_15 a0_16 a0_17 a0_18 a0_19 a0_20 a1_0 a1_1 a1_2 a2_0 a2_1 a2_2)) = some r := H
        have A22 := Aside0.mk A220
        clear A220
        by_cases c23 : t198 = true
        · subst c23
          have H1 : ((compositorref21_hyphen.f a2_0).bind fun t199 => (compositorref21_Both.j1 kj5 x9_5 t199 a0_0 a0_1 a0_2 a0_3 l0_4 a0_5 a0_6 a0_7 a0_8 a0_9 a0_10 a0_11 a0_12 a0_13 a0_14 a0_15 a0_16 a0_17 a0_18 a0_19 a0_20 a1_0 a1_1 a1_2 a2_0 a2_1 a2_2)) = some r := by rw [if_pos rfl] at H; exact H
          clear H
          have H := H1
          clear H1
          replace H := Option.bind_eq_some_iff.mp H
          obtain ⟨t199, A240, H⟩ := H
          replace H : (compositorref21_Both.j1 kj5 x9_5 t199 a0_0 a0_1 a0_2 a0_3 l0_4 a0_5 a0_6 a0_7 a0_8 a0_9 a0_10 a0_11 a0_12 a0_13 a0_14 a0_15 a0_16 a0_17 a0_18 a0_19 a0_20 a1_0 a1_1 a1_2 a2_0 a2_1 a2_2) = some r := H
          have A24 := Aside0.mk A240
          clear A240
          have H' := Aside0.mk H
          clear H
          have hnb25 := NB195_194.out
          have hnc25 := NB194_195.out
          have hnb26 := NB195_196.out
          have hnc26 := NB196_195.out
          have hcz27_0 : wc.cell? ⟨gb195, 0, none⟩ = some (.int .i64 a1_0) := (blk_cell BK195.out 0).trans rfl
          have hcz27_1 : wc.cell? ⟨gb195, 1, none⟩ = some (.int .i64 a1_1) := (blk_cell BK195.out 1).trans rfl
          have hcz27_2 : wc.cell? ⟨gb195, 2, none⟩ = some (.int .i64 a1_2) := (blk_cell BK195.out 2).trans rfl
          have hfz27_0 := blk_frozen BK195.out 0
          have hfz27_1 := blk_frozen BK195.out 1
          have hfz27_2 := blk_frozen BK195.out 2
          have tk_ : True := trivial
          go_wp2_with (first | ((with_reducible refine gate_load (T := 24) rfl ?_); refine load_row_event (by first | rfl | (go_simp; done)) 24 _ rfl gb194 rfl 24 _ (0, 0) _ (by (with_reducible repeat (first | refine blk_drewN ?_ _ | refine blk_drew ?_ | refine blk_alloc ?_ _)); first | with_reducible exact BK194.out | with_reducible exact (blk_far BK194.out NB194_195.out _) | with_reducible exact (blk_far (blk_far BK194.out NB194_195.out _) NB194_195.out _) | with_reducible exact (blk_far (blk_far (blk_far BK194.out NB194_195.out _) NB194_195.out _) NB194_195.out _) | with_reducible exact (blk_far BK194.out NB194_196.out _) | with_reducible exact (blk_far (blk_far BK194.out NB194_196.out _) NB194_196.out _) | with_reducible exact (blk_far (blk_far (blk_far BK194.out NB194_196.out _) NB194_196.out _) NB194_196.out _)) hu24 rfl (by kernel_rfl) ?_) | ((with_reducible refine gate_store (t := 24) rfl ?_); refine store_row_event (base := w.heap.size) rfl rfl 24 _ _ rfl (g := gb194) (by rfl) (by rfl) (by (with_reducible repeat (first | refine blk_drewN ?_ _ | refine blk_drew ?_ | refine blk_alloc ?_ _)); exact BK194.out) (by kernel_rfl) (by rfl) (by rfl) GE194.out ?_; intro ws_ hs_ hk_ hb_; have n0_ := Aside0.mk (Below.trans (by repeat (first | (with_reducible first | exact HB.out | apply below_alloc | apply pw_below_drewN | apply below_drew1) | exact HB.out)) hb_); clear HB; have HB := n0_; clear n0_; clear BK194; have BK194 := Aside0.mk hs_; clear hs_; (try (have z_ := Aside0.mk (blk_else BK195.out NB195_194.out hk_); clear BK195; have BK195 := z_; clear z_)); (try (have z_ := Aside0.mk (blk_else BK196.out NB196_194.out hk_); clear BK196; have BK196 := z_; clear z_)); have hxs_ := blk_cell BK194.out; have hys_ := blk_frozen BK194.out; clear hk_ hb_) | (go_at_call 22; clear tk_; (with_reducible refine (compositorref21_hyphen.calls a1_0 true _ A22.out).mono ?_); rintro e w' ⟨rfl, ⟨nd, rfl⟩⟩; have hnb28 := NB196_194.out; have hnc28 := NB194_196.out; have hcz29_0 : wc.cell? ⟨gb196, 0, none⟩ = some (.int .i64 a2_0) := (blk_cell BK196.out 0).trans rfl; have hcz29_1 : wc.cell? ⟨gb196, 1, none⟩ = some (.int .i64 a2_1) := (blk_cell BK196.out 1).trans rfl; have hcz29_2 : wc.cell? ⟨gb196, 2, none⟩ = some (.int .i64 a2_2) := (blk_cell BK196.out 2).trans rfl; have hfz29_0 := blk_frozen BK196.out 0; have hfz29_1 := blk_frozen BK196.out 1; have hfz29_2 := blk_frozen BK196.out 2))
          as_aux_lemma =>
          have tk_ : True := trivial
          go_wp2_with (first | ((with_reducible refine gate_load (T := 24) rfl ?_); refine load_row_event (by first | rfl | (go_simp; done)) 24 _ rfl gb194 rfl 24 _ (0, 0) _ (by (with_reducible repeat (first | refine blk_drewN ?_ _ | refine blk_drew ?_ | refine blk_alloc ?_ _)); first | with_reducible exact BK194.out | with_reducible exact (blk_far BK194.out NB194_195.out _) | with_reducible exact (blk_far (blk_far BK194.out NB194_195.out _) NB194_195.out _) | with_reducible exact (blk_far (blk_far (blk_far BK194.out NB194_195.out _) NB194_195.out _) NB194_195.out _) | with_reducible exact (blk_far BK194.out NB194_196.out _) | with_reducible exact (blk_far (blk_far BK194.out NB194_196.out _) NB194_196.out _) | with_reducible exact (blk_far (blk_far (blk_far BK194.out NB194_196.out _) NB194_196.out _) NB194_196.out _)) hu24 rfl (by kernel_rfl) ?_) | ((with_reducible refine gate_store (t := 24) rfl ?_); refine store_row_event (base := w.heap.size) rfl rfl 24 _ _ rfl (g := gb194) (by rfl) (by rfl) (by (with_reducible repeat (first | refine blk_drewN ?_ _ | refine blk_drew ?_ | refine blk_alloc ?_ _)); exact BK194.out) (by kernel_rfl) (by rfl) (by rfl) GE194.out ?_; intro ws_ hs_ hk_ hb_; have n0_ := Aside0.mk (Below.trans (by repeat (first | (with_reducible first | exact HB.out | apply below_alloc | apply pw_below_drewN | apply below_drew1) | exact HB.out)) hb_); clear HB; have HB := n0_; clear n0_; clear BK194; have BK194 := Aside0.mk hs_; clear hs_; (try (have z_ := Aside0.mk (blk_else BK195.out NB195_194.out hk_); clear BK195; have BK195 := z_; clear z_)); (try (have z_ := Aside0.mk (blk_else BK196.out NB196_194.out hk_); clear BK196; have BK196 := z_; clear z_)); have hxs_ := blk_cell BK194.out; have hys_ := blk_frozen BK194.out; clear hk_ hb_) | (go_at_call 22; clear tk_; (with_reducible refine (compositorref21_hyphen.calls a2_0 t199 _ A24.out).mono ?_); rintro e w' ⟨rfl, ⟨nd, rfl⟩⟩))
          go_meet
          case rel => exact ⟨_, (t199), (by first | rfl | (simp; done) | (simp [*]; done)), H', ⟨by have := HJ5.out; first | omega | exact Nat.le_refl _⟩, ⟨by (with_reducible repeat (first | refine blk_drewN ?_ _ | refine blk_drew ?_ | refine blk_alloc ?_ _)); exact BK194.out⟩, ⟨by (with_reducible repeat (first | refine blk_drewN ?_ _ | refine blk_drew ?_ | refine blk_alloc ?_ _)); exact BK195.out⟩, ⟨by (with_reducible repeat (first | refine blk_drewN ?_ _ | refine blk_drew ?_ | refine blk_alloc ?_ _)); exact BK196.out⟩, ⟨by repeat (first | (with_reducible first | exact HB.out | apply below_alloc | apply pw_below_drewN | apply below_drew1 | refine below_set ?_ GE194.out | refine below_set ?_ GE195.out | refine below_set ?_ GE196.out) | exact HB.out)⟩⟩
        · replace c23 := Bool.eq_false_iff.mpr c23
          subst c23
          have H1 : (compositorref21_Both.j1 kj5 x9_5 false a0_0 a0_1 a0_2 a0_3 l0_4 a0_5 a0_6 a0_7 a0_8 a0_9 a0_10 a0_11 a0_12 a0_13 a0_14 a0_15 a0_16 a0_17 a0_18 a0_19 a0_20 a1_0 a1_1 a1_2 a2_0 a2_1 a2_2) = some r := by rw [if_neg (show ¬ (false = true) by decide)] at H; exact H
          clear H
          have H := H1
          clear H1
          have H' := Aside0.mk H
          clear H
          have hnb30 := NB195_194.out
          have hnc30 := NB194_195.out
          have hnb31 := NB195_196.out
          have hnc31 := NB196_195.out
          have hcz32_0 : wc.cell? ⟨gb195, 0, none⟩ = some (.int .i64 a1_0) := (blk_cell BK195.out 0).trans rfl
          have hcz32_1 : wc.cell? ⟨gb195, 1, none⟩ = some (.int .i64 a1_1) := (blk_cell BK195.out 1).trans rfl
          have hcz32_2 : wc.cell? ⟨gb195, 2, none⟩ = some (.int .i64 a1_2) := (blk_cell BK195.out 2).trans rfl
          have hfz32_0 := blk_frozen BK195.out 0
          have hfz32_1 := blk_frozen BK195.out 1
          have hfz32_2 := blk_frozen BK195.out 2
          go_wp2_with (first | ((with_reducible refine gate_load (T := 24) rfl ?_); refine load_row_event (by first | rfl | (go_simp; done)) 24 _ rfl gb194 rfl 24 _ (0, 0) _ (by (with_reducible repeat (first | refine blk_drewN ?_ _ | refine blk_drew ?_ | refine blk_alloc ?_ _)); first | with_reducible exact BK194.out | with_reducible exact (blk_far BK194.out NB194_195.out _) | with_reducible exact (blk_far (blk_far BK194.out NB194_195.out _) NB194_195.out _) | with_reducible exact (blk_far (blk_far (blk_far BK194.out NB194_195.out _) NB194_195.out _) NB194_195.out _) | with_reducible exact (blk_far BK194.out NB194_196.out _) | with_reducible exact (blk_far (blk_far BK194.out NB194_196.out _) NB194_196.out _) | with_reducible exact (blk_far (blk_far (blk_far BK194.out NB194_196.out _) NB194_196.out _) NB194_196.out _)) hu24 rfl (by kernel_rfl) ?_) | ((with_reducible refine gate_store (t := 24) rfl ?_); refine store_row_event (base := w.heap.size) rfl rfl 24 _ _ rfl (g := gb194) (by rfl) (by rfl) (by (with_reducible repeat (first | refine blk_drewN ?_ _ | refine blk_drew ?_ | refine blk_alloc ?_ _)); exact BK194.out) (by kernel_rfl) (by rfl) (by rfl) GE194.out ?_; intro ws_ hs_ hk_ hb_; have n0_ := Aside0.mk (Below.trans (by repeat (first | (with_reducible first | exact HB.out | apply below_alloc | apply pw_below_drewN | apply below_drew1) | exact HB.out)) hb_); clear HB; have HB := n0_; clear n0_; clear BK194; have BK194 := Aside0.mk hs_; clear hs_; (try (have z_ := Aside0.mk (blk_else BK195.out NB195_194.out hk_); clear BK195; have BK195 := z_; clear z_)); (try (have z_ := Aside0.mk (blk_else BK196.out NB196_194.out hk_); clear BK196; have BK196 := z_; clear z_)); have hxs_ := blk_cell BK194.out; have hys_ := blk_frozen BK194.out; clear hk_ hb_) | ((with_reducible refine gate_callee (f := 22) rfl ?_); refine goesL_ (some 25) rfl rfl Try.func22 (by kernel_rfl) rfl #[.int .i64 a1_0] rfl (by (try simp only [List.map_toArray, List.map_cons, List.map_nil]); first | done | rfl | (simp only [List.length_drop, List.length_take]; rfl)) ?_; (with_reducible refine (compositorref21_hyphen.calls a1_0 false _ A22.out).mono ?_); rintro e w' ⟨rfl, ⟨nd, rfl⟩⟩; refine ⟨_, rfl, ?_⟩))
          go_meet
          case rel => exact ⟨_, (false), (by first | rfl | (simp; done) | (simp [*]; done)), H', ⟨by have := HJ5.out; first | omega | exact Nat.le_refl _⟩, ⟨by (with_reducible repeat (first | refine blk_drewN ?_ _ | refine blk_drew ?_ | refine blk_alloc ?_ _)); exact BK194.out⟩, ⟨by (with_reducible repeat (first | refine blk_drewN ?_ _ | refine blk_drew ?_ | refine blk_alloc ?_ _)); exact BK195.out⟩, ⟨by (with_reducible repeat (first | refine blk_drewN ?_ _ | refine blk_drew ?_ | refine blk_alloc ?_ _)); exact BK196.out⟩, ⟨by repeat (first | (with_reducible first | exact HB.out | apply below_alloc | apply pw_below_drewN | apply below_drew1 | refine below_set ?_ GE194.out | refine below_set ?_ GE195.out | refine below_set ?_ GE196.out) | exact HB.out)⟩⟩
      case rest => as_aux_lemma =>
        clear HC21
        try clear c1
        try clear c2
        try clear p2
        try clear c3
        try clear p6
        try clear c10
        try clear c11
        try clear c13
        try clear c17
        try clear c18
        try clear c19
        try clear c22
        try clear c23
        try clear c25
        try clear c26
        try clear c28
        try clear c30
        try clear c31
        try clear hcz12_0
        try clear hcz12_1
        try clear hcz12_10
        try clear hcz12_11
        try clear hcz12_12
        try clear hcz12_13
        try clear hcz12_14
        try clear hcz12_15
        try clear hcz12_16
        try clear hcz12_17
        try clear hcz12_18
        try clear hcz12_19
        try clear hcz12_2
        try clear hcz12_20
        try clear hcz12_3
        try clear hcz12_4
        try clear hcz12_5
        try clear hcz12_6
        try clear hcz12_7
        try clear hcz12_8
        try clear hcz12_9
        try clear hcz14_0
        try clear hcz14_1
        try clear hcz14_2
        try clear hcz15_0
        try clear hcz15_1
        try clear hcz15_2
        try clear hcz20_0
        try clear hcz20_1
        try clear hcz20_10
        try clear hcz20_11
        try clear hcz20_12
        try clear hcz20_13
        try clear hcz20_14
        try clear hcz20_15
        try clear hcz20_16
        try clear hcz20_17
        try clear hcz20_18
        try clear hcz20_19
        try clear hcz20_2
        try clear hcz20_20
        try clear hcz20_3
        try clear hcz20_4
        try clear hcz20_5
        try clear hcz20_6
        try clear hcz20_7
        try clear hcz20_8
        try clear hcz20_9
        try clear hcz27_0
        try clear hcz27_1
        try clear hcz27_2
        try clear hcz29_0
        try clear hcz29_1
        try clear hcz29_2
        try clear hcz32_0
        try clear hcz32_1
        try clear hcz32_2
        try clear hfz12_0
        try clear hfz12_1
        try clear hfz12_10
        try clear hfz12_11
        try clear hfz12_12
        try clear hfz12_13
        try clear hfz12_14
        try clear hfz12_15
        try clear hfz12_16
        try clear hfz12_17
        try clear hfz12_18
        try clear hfz12_19
        try clear hfz12_2
        try clear hfz12_20
        try clear hfz12_3
        try clear hfz12_4
        try clear hfz12_5
        try clear hfz12_6
        try clear hfz12_7
        try clear hfz12_8
        try clear hfz12_9
        try clear hfz14_0
        try clear hfz14_1
        try clear hfz14_2
        try clear hfz15_0
        try clear hfz15_1
        try clear hfz15_2
        try clear hfz20_0
        try clear hfz20_1
        try clear hfz20_10
        try clear hfz20_11
        try clear hfz20_12
        try clear hfz20_13
        try clear hfz20_14
        try clear hfz20_15
        try clear hfz20_16
        try clear hfz20_17
        try clear hfz20_18
        try clear hfz20_19
        try clear hfz20_2
        try clear hfz20_20
        try clear hfz20_3
        try clear hfz20_4
        try clear hfz20_5
        try clear hfz20_6
        try clear hfz20_7
        try clear hfz20_8
        try clear hfz20_9
        try clear hfz27_0
        try clear hfz27_1
        try clear hfz27_2
        try clear hfz29_0
        try clear hfz29_1
        try clear hfz29_2
        try clear hfz32_0
        try clear hfz32_1
        try clear hfz32_2
        try clear p2
        try clear p6
        obtain ⟨kq, x30_20, rfl, HA, HJ20, BK194, BK195, BK196, HB⟩ := hcut
        cases kq with
        | zero => exact absurd HA.out (by simp [compositorref21_Both.j1])
        | succ kj20 =>
          have H := HA.out
          clear HA
          simp only [compositorref21_Both.j1] at H
          have HC33 := Aside0.mk H
          clear H
          go_upto_if 30 with (fail)
          go_cut [9] (fun v9 wc => ∃ (kq : Nat) (x9_32 : Int), v9 = .int .i64 x9_32 ∧ Aside0 (compositorref21_Both.j2 kq x9_32 a0_0 a0_1 a0_2 a0_3 l0_4 a0_5 a0_6 a0_7 a0_8 a0_9 a0_10 a0_11 a0_12 a0_13 a0_14 a0_15 a0_16 a0_17 a0_18 a0_19 a0_20 a1_0 a1_1 a1_2 a2_0 a2_1 a2_2 = some r) ∧ Aside0 (kq ≤ kj20) ∧ Aside0 (wc.heap[gb194]? = some (.cells #[.int .i64 a0_0, .int .i64 a0_1, .int .i64 a0_2, .int .i64 a0_3, (.slice A0_4 l0_4.length c0_4), .int .i64 a0_5, .int .i64 a0_6, .int .i64 a0_7, .int .i64 a0_8, .int .i64 a0_9, .int .i64 a0_10, .int .i64 a0_11, .int .i64 a0_12, .int .i64 a0_13, .int .i64 a0_14, .int .i64 a0_15, .int .i64 a0_16, .int .i64 a0_17, .int .i64 a0_18, .int .i64 a0_19, .int .i64 a0_20] 24 (0, 0))) ∧ Aside0 (wc.heap[gb195]? = some (.cells #[.int .i64 a1_0, .int .i64 a1_1, .int .i64 a1_2] 26 (0, 0))) ∧ Aside0 (wc.heap[gb196]? = some (.cells #[.int .i64 a2_0, .int .i64 a2_1, .int .i64 a2_2] 26 (0, 0))) ∧ Aside0 (Below w.heap.size w wc))
          case first => as_aux_lemma =>
            have H := HC33.out
            clear HC33
            by_cases c34 : x30_20 = true
            · subst c34
              have H1 : (compositorref21_Both.j2 kj20 (wrap64 (x9_5 + a0_16)) a0_0 a0_1 a0_2 a0_3 l0_4 a0_5 a0_6 a0_7 a0_8 a0_9 a0_10 a0_11 a0_12 a0_13 a0_14 a0_15 a0_16 a0_17 a0_18 a0_19 a0_20 a1_0 a1_1 a1_2 a2_0 a2_1 a2_2) = some r := by rw [if_pos rfl] at H; exact H
              clear H
              have H := H1
              clear H1
              have H' := Aside0.mk H
              clear H
              have hnb35 := NB194_195.out
              have hnc35 := NB195_194.out
              have hnb36 := NB194_196.out
              have hnc36 := NB196_194.out
              have hcz37_0 := blk_cell BK194.out
              have hfz37_0 := blk_frozen BK194.out
              go_wp2
              go_meet
              case rel => exact ⟨_, (wrap64 (x9_5 + a0_16)), (by first | rfl | (simp; done) | (simp [*]; done)), H', ⟨by have := HJ5.out; have := HJ20.out; first | omega | exact Nat.le_refl _⟩, ⟨by (with_reducible repeat (first | refine blk_drewN ?_ _ | refine blk_drew ?_ | refine blk_alloc ?_ _)); exact BK194.out⟩, ⟨by (with_reducible repeat (first | refine blk_drewN ?_ _ | refine blk_drew ?_ | refine blk_alloc ?_ _)); exact BK195.out⟩, ⟨by (with_reducible repeat (first | refine blk_drewN ?_ _ | refine blk_drew ?_ | refine blk_alloc ?_ _)); exact BK196.out⟩, ⟨by repeat (first | (with_reducible first | exact HB.out | apply below_alloc | apply pw_below_drewN | apply below_drew1 | refine below_set ?_ GE194.out | refine below_set ?_ GE195.out | refine below_set ?_ GE196.out) | exact HB.out)⟩⟩
            · replace c34 := Bool.eq_false_iff.mpr c34
              subst c34
              have H1 : (compositorref21_Both.j2 kj20 x9_5 a0_0 a0_1 a0_2 a0_3 l0_4 a0_5 a0_6 a0_7 a0_8 a0_9 a0_10 a0_11 a0_12 a0_13 a0_14 a0_15 a0_16 a0_17 a0_18 a0_19 a0_20 a1_0 a1_1 a1_2 a2_0 a2_1 a2_2) = some r := by rw [if_neg (show ¬ (false = true) by decide)] at H; exact H
              clear H
              have H := H1
              clear H1
              have H' := Aside0.mk H
              clear H
              go_wp2
              go_meet
              case rel => exact ⟨_, (x9_5), (by first | rfl | (simp; done) | (simp [*]; done)), H', ⟨by have := HJ5.out; have := HJ20.out; first | omega | exact Nat.le_refl _⟩, ⟨by (with_reducible repeat (first | refine blk_drewN ?_ _ | refine blk_drew ?_ | refine blk_alloc ?_ _)); exact BK194.out⟩, ⟨by (with_reducible repeat (first | refine blk_drewN ?_ _ | refine blk_drew ?_ | refine blk_alloc ?_ _)); exact BK195.out⟩, ⟨by (with_reducible repeat (first | refine blk_drewN ?_ _ | refine blk_drew ?_ | refine blk_alloc ?_ _)); exact BK196.out⟩, ⟨by repeat (first | (with_reducible first | exact HB.out | apply below_alloc | apply pw_below_drewN | apply below_drew1 | refine below_set ?_ GE194.out | refine below_set ?_ GE195.out | refine below_set ?_ GE196.out) | exact HB.out)⟩⟩
          case rest => as_aux_lemma =>
            clear HC33
            try clear c1
            try clear c2
            try clear p2
            try clear c3
            try clear p6
            try clear c10
            try clear c11
            try clear c13
            try clear c17
            try clear c18
            try clear c19
            try clear c22
            try clear c23
            try clear c25
            try clear c26
            try clear c28
            try clear c30
            try clear c31
            try clear c34
            try clear c35
            try clear c36
            try clear hcz12_0
            try clear hcz12_1
            try clear hcz12_10
            try clear hcz12_11
            try clear hcz12_12
            try clear hcz12_13
            try clear hcz12_14
            try clear hcz12_15
            try clear hcz12_16
            try clear hcz12_17
            try clear hcz12_18
            try clear hcz12_19
            try clear hcz12_2
            try clear hcz12_20
            try clear hcz12_3
            try clear hcz12_4
            try clear hcz12_5
            try clear hcz12_6
            try clear hcz12_7
            try clear hcz12_8
            try clear hcz12_9
            try clear hcz14_0
            try clear hcz14_1
            try clear hcz14_2
            try clear hcz15_0
            try clear hcz15_1
            try clear hcz15_2
            try clear hcz20_0
            try clear hcz20_1
            try clear hcz20_10
            try clear hcz20_11
            try clear hcz20_12
            try clear hcz20_13
            try clear hcz20_14
            try clear hcz20_15
            try clear hcz20_16
            try clear hcz20_17
            try clear hcz20_18
            try clear hcz20_19
            try clear hcz20_2
            try clear hcz20_20
            try clear hcz20_3
            try clear hcz20_4
            try clear hcz20_5
            try clear hcz20_6
            try clear hcz20_7
            try clear hcz20_8
            try clear hcz20_9
            try clear hcz27_0
            try clear hcz27_1
            try clear hcz27_2
            try clear hcz29_0
            try clear hcz29_1
            try clear hcz29_2
            try clear hcz32_0
            try clear hcz32_1
            try clear hcz32_2
            try clear hcz37_0
            try clear hcz37_1
            try clear hcz37_10
            try clear hcz37_11
            try clear hcz37_12
            try clear hcz37_13
            try clear hcz37_14
            try clear hcz37_15
            try clear hcz37_16
            try clear hcz37_17
            try clear hcz37_18
            try clear hcz37_19
            try clear hcz37_2
            try clear hcz37_20
            try clear hcz37_3
            try clear hcz37_4
            try clear hcz37_5
            try clear hcz37_6
            try clear hcz37_7
            try clear hcz37_8
            try clear hcz37_9
            try clear hfz12_0
            try clear hfz12_1
            try clear hfz12_10
            try clear hfz12_11
            try clear hfz12_12
            try clear hfz12_13
            try clear hfz12_14
            try clear hfz12_15
            try clear hfz12_16
            try clear hfz12_17
            try clear hfz12_18
            try clear hfz12_19
            try clear hfz12_2
            try clear hfz12_20
            try clear hfz12_3
            try clear hfz12_4
            try clear hfz12_5
            try clear hfz12_6
            try clear hfz12_7
            try clear hfz12_8
            try clear hfz12_9
            try clear hfz14_0
            try clear hfz14_1
            try clear hfz14_2
            try clear hfz15_0
            try clear hfz15_1
            try clear hfz15_2
            try clear hfz20_0
            try clear hfz20_1
            try clear hfz20_10
            try clear hfz20_11
            try clear hfz20_12
            try clear hfz20_13
            try clear hfz20_14
            try clear hfz20_15
            try clear hfz20_16
            try clear hfz20_17
            try clear hfz20_18
            try clear hfz20_19
            try clear hfz20_2
            try clear hfz20_20
            try clear hfz20_3
            try clear hfz20_4
            try clear hfz20_5
            try clear hfz20_6
            try clear hfz20_7
            try clear hfz20_8
            try clear hfz20_9
            try clear hfz27_0
            try clear hfz27_1
            try clear hfz27_2
            try clear hfz29_0
            try clear hfz29_1
            try clear hfz29_2
            try clear hfz32_0
            try clear hfz32_1
            try clear hfz32_2
            try clear hfz37_0
            try clear hfz37_1
            try clear hfz37_10
            try clear hfz37_11
            try clear hfz37_12
            try clear hfz37_13
            try clear hfz37_14
            try clear hfz37_15
            try clear hfz37_16
            try clear hfz37_17
            try clear hfz37_18
            try clear hfz37_19
            try clear hfz37_2
            try clear hfz37_20
            try clear hfz37_3
            try clear hfz37_4
            try clear hfz37_5
            try clear hfz37_6
            try clear hfz37_7
            try clear hfz37_8
            try clear hfz37_9
            try clear p2
            try clear p6
            obtain ⟨kq, x9_32, rfl, HA, HJ32, BK194, BK195, BK196, HB⟩ := hcut
            cases kq with
            | zero => exact absurd HA.out (by simp [compositorref21_Both.j2])
            | succ kj32 =>
              have H := HA.out
              clear HA
              simp only [compositorref21_Both.j2] at H
              have HC38 := Aside0.mk H
              clear H
              go_upto_region 6 with (fail)
              go_cut [42] (fun v42 wc => ∃ (kq : Nat) (x42_37 : Bool), v42 = .bool x42_37 ∧ Aside0 (compositorref21_Both.j3 kq x9_32 x42_37 a0_0 a0_1 a0_2 a0_3 l0_4 a0_5 a0_6 a0_7 a0_8 a0_9 a0_10 a0_11 a0_12 a0_13 a0_14 a0_15 a0_16 a0_17 a0_18 a0_19 a0_20 a2_0 a2_1 a2_2 = some r) ∧ Aside0 (kq ≤ kj32) ∧ Aside0 (wc.heap[gb194]? = some (.cells #[.int .i64 a0_0, .int .i64 a0_1, .int .i64 a0_2, .int .i64 a0_3, (.slice A0_4 l0_4.length c0_4), .int .i64 a0_5, .int .i64 a0_6, .int .i64 a0_7, .int .i64 a0_8, .int .i64 a0_9, .int .i64 a0_10, .int .i64 a0_11, .int .i64 a0_12, .int .i64 a0_13, .int .i64 a0_14, .int .i64 a0_15, .int .i64 a0_16, .int .i64 a0_17, .int .i64 a0_18, .int .i64 a0_19, .int .i64 a0_20] 24 (0, 0))) ∧ Aside0 (wc.heap[gb195]? = some (.cells #[.int .i64 a1_0, .int .i64 a1_1, .int .i64 a1_2] 26 (0, 0))) ∧ Aside0 (wc.heap[gb196]? = some (.cells #[.int .i64 a2_0, .int .i64 a2_1, .int .i64 a2_2] 26 (0, 0))) ∧ Aside0 (Below w.heap.size w wc))
              case first => as_aux_lemma =>
                have H := HC38.out
                clear HC38
                replace H := Option.bind_eq_some_iff.mp H
                obtain ⟨t200, A390, H⟩ := H
                replace H : (if t200 = true then (compositorref21_Both.j3 kj32 x9_32 (a2_0 == 5) a0_0 a0_1 a0_2 a0_3 l0_4 a0_5 a0_6 a0_7 a0_8 a0_9 a0_10 a0_11 a0_12 a0_13 a0_14 a0_15 a0_16 a0_17 a0_18 a0_19 a0_20 a2_0 a2_1 a2_2) else (compositorref21_Both.j3 kj32 x9_32 false a0_0 a0_1 a0_2 a0_3 l0_4 a0_5 a0_6 a0_7 a0_8 a0_9 a0_10 a0_11 a0_12 a0_13 a0_14 a0_15 a0_16 a0_17 a0_18 a0_19 a0_20 a2_0 a2_1 a2_2)) = some r := H
                have A39 := Aside0.mk A390
                clear A390
                by_cases c40 : t200 = true
                · subst c40
                  have H1 : (compositorref21_Both.j3 kj32 x9_32 (a2_0 == 5) a0_0 a0_1 a0_2 a0_3 l0_4 a0_5 a0_6 a0_7 a0_8 a0_9 a0_10 a0_11 a0_12 a0_13 a0_14 a0_15 a0_16 a0_17 a0_18 a0_19 a0_20 a2_0 a2_1 a2_2) = some r := by rw [if_pos rfl] at H; exact H
                  clear H
                  have H := H1
                  clear H1
                  have H' := Aside0.mk H
                  clear H
                  have hnb41 := NB195_194.out
                  have hnc41 := NB194_195.out
                  have hnb42 := NB195_196.out
                  have hnc42 := NB196_195.out
                  have hcz43_0 : wc.cell? ⟨gb195, 0, none⟩ = some (.int .i64 a1_0) := (blk_cell BK195.out 0).trans rfl
                  have hcz43_1 : wc.cell? ⟨gb195, 1, none⟩ = some (.int .i64 a1_1) := (blk_cell BK195.out 1).trans rfl
                  have hcz43_2 : wc.cell? ⟨gb195, 2, none⟩ = some (.int .i64 a1_2) := (blk_cell BK195.out 2).trans rfl
                  have hfz43_0 := blk_frozen BK195.out 0
                  have hfz43_1 := blk_frozen BK195.out 1
                  have hfz43_2 := blk_frozen BK195.out 2
                  go_wp2_with (first | ((with_reducible refine gate_load (T := 24) rfl ?_); refine load_row_event (by first | rfl | (go_simp; done)) 24 _ rfl gb194 rfl 24 _ (0, 0) _ (by (with_reducible repeat (first | refine blk_drewN ?_ _ | refine blk_drew ?_ | refine blk_alloc ?_ _)); first | with_reducible exact BK194.out | with_reducible exact (blk_far BK194.out NB194_195.out _) | with_reducible exact (blk_far (blk_far BK194.out NB194_195.out _) NB194_195.out _) | with_reducible exact (blk_far (blk_far (blk_far BK194.out NB194_195.out _) NB194_195.out _) NB194_195.out _) | with_reducible exact (blk_far BK194.out NB194_196.out _) | with_reducible exact (blk_far (blk_far BK194.out NB194_196.out _) NB194_196.out _) | with_reducible exact (blk_far (blk_far (blk_far BK194.out NB194_196.out _) NB194_196.out _) NB194_196.out _)) hu24 rfl (by kernel_rfl) ?_) | ((with_reducible refine gate_store (t := 24) rfl ?_); refine store_row_event (base := w.heap.size) rfl rfl 24 _ _ rfl (g := gb194) (by rfl) (by rfl) (by (with_reducible repeat (first | refine blk_drewN ?_ _ | refine blk_drew ?_ | refine blk_alloc ?_ _)); exact BK194.out) (by kernel_rfl) (by rfl) (by rfl) GE194.out ?_; intro ws_ hs_ hk_ hb_; have n0_ := Aside0.mk (Below.trans (by repeat (first | (with_reducible first | exact HB.out | apply below_alloc | apply pw_below_drewN | apply below_drew1) | exact HB.out)) hb_); clear HB; have HB := n0_; clear n0_; clear BK194; have BK194 := Aside0.mk hs_; clear hs_; (try (have z_ := Aside0.mk (blk_else BK195.out NB195_194.out hk_); clear BK195; have BK195 := z_; clear z_)); (try (have z_ := Aside0.mk (blk_else BK196.out NB196_194.out hk_); clear BK196; have BK196 := z_; clear z_)); have hxs_ := blk_cell BK194.out; have hys_ := blk_frozen BK194.out; clear hk_ hb_) | ((with_reducible refine gate_callee (f := 22) rfl ?_); refine goesL_ (some 37) rfl rfl Try.func22 (by kernel_rfl) rfl #[.int .i64 a1_0] rfl (by (try simp only [List.map_toArray, List.map_cons, List.map_nil]); first | done | rfl | (simp only [List.length_drop, List.length_take]; rfl)) ?_; (with_reducible refine (compositorref21_hyphen.calls a1_0 true _ A39.out).mono ?_); rintro e w' ⟨rfl, ⟨nd, rfl⟩⟩; refine ⟨_, rfl, ?_⟩; have hnb44 := NB196_194.out; have hnc44 := NB194_196.out; have hcz45_0 : wc.cell? ⟨gb196, 0, none⟩ = some (.int .i64 a2_0) := (blk_cell BK196.out 0).trans rfl; have hcz45_1 : wc.cell? ⟨gb196, 1, none⟩ = some (.int .i64 a2_1) := (blk_cell BK196.out 1).trans rfl; have hcz45_2 : wc.cell? ⟨gb196, 2, none⟩ = some (.int .i64 a2_2) := (blk_cell BK196.out 2).trans rfl; have hfz45_0 := blk_frozen BK196.out 0; have hfz45_1 := blk_frozen BK196.out 1; have hfz45_2 := blk_frozen BK196.out 2))
                  go_meet
                  case rel => exact ⟨_, ((a2_0 == 5)), (by first | rfl | (simp; done) | (simp [*]; done)), H', ⟨by have := HJ5.out; have := HJ20.out; have := HJ32.out; first | omega | exact Nat.le_refl _⟩, ⟨by (with_reducible repeat (first | refine blk_drewN ?_ _ | refine blk_drew ?_ | refine blk_alloc ?_ _)); exact BK194.out⟩, ⟨by (with_reducible repeat (first | refine blk_drewN ?_ _ | refine blk_drew ?_ | refine blk_alloc ?_ _)); exact BK195.out⟩, ⟨by (with_reducible repeat (first | refine blk_drewN ?_ _ | refine blk_drew ?_ | refine blk_alloc ?_ _)); exact BK196.out⟩, ⟨by repeat (first | (with_reducible first | exact HB.out | apply below_alloc | apply pw_below_drewN | apply below_drew1 | refine below_set ?_ GE194.out | refine below_set ?_ GE195.out | refine below_set ?_ GE196.out) | exact HB.out)⟩⟩
                · replace c40 := Bool.eq_false_iff.mpr c40
                  subst c40
                  have H1 : (compositorref21_Both.j3 kj32 x9_32 false a0_0 a0_1 a0_2 a0_3 l0_4 a0_5 a0_6 a0_7 a0_8 a0_9 a0_10 a0_11 a0_12 a0_13 a0_14 a0_15 a0_16 a0_17 a0_18 a0_19 a0_20 a2_0 a2_1 a2_2) = some r := by rw [if_neg (show ¬ (false = true) by decide)] at H; exact H
                  clear H
                  have H := H1
                  clear H1
                  have H' := Aside0.mk H
                  clear H
                  have hnb46 := NB195_194.out
                  have hnc46 := NB194_195.out
                  have hnb47 := NB195_196.out
                  have hnc47 := NB196_195.out
                  have hcz48_0 : wc.cell? ⟨gb195, 0, none⟩ = some (.int .i64 a1_0) := (blk_cell BK195.out 0).trans rfl
                  have hcz48_1 : wc.cell? ⟨gb195, 1, none⟩ = some (.int .i64 a1_1) := (blk_cell BK195.out 1).trans rfl
                  have hcz48_2 : wc.cell? ⟨gb195, 2, none⟩ = some (.int .i64 a1_2) := (blk_cell BK195.out 2).trans rfl
                  have hfz48_0 := blk_frozen BK195.out 0
                  have hfz48_1 := blk_frozen BK195.out 1
                  have hfz48_2 := blk_frozen BK195.out 2
                  go_wp2_with (first | ((with_reducible refine gate_load (T := 24) rfl ?_); refine load_row_event (by first | rfl | (go_simp; done)) 24 _ rfl gb194 rfl 24 _ (0, 0) _ (by (with_reducible repeat (first | refine blk_drewN ?_ _ | refine blk_drew ?_ | refine blk_alloc ?_ _)); first | with_reducible exact BK194.out | with_reducible exact (blk_far BK194.out NB194_195.out _) | with_reducible exact (blk_far (blk_far BK194.out NB194_195.out _) NB194_195.out _) | with_reducible exact (blk_far (blk_far (blk_far BK194.out NB194_195.out _) NB194_195.out _) NB194_195.out _) | with_reducible exact (blk_far BK194.out NB194_196.out _) | with_reducible exact (blk_far (blk_far BK194.out NB194_196.out _) NB194_196.out _) | with_reducible exact (blk_far (blk_far (blk_far BK194.out NB194_196.out _) NB194_196.out _) NB194_196.out _)) hu24 rfl (by kernel_rfl) ?_) | ((with_reducible refine gate_store (t := 24) rfl ?_); refine store_row_event (base := w.heap.size) rfl rfl 24 _ _ rfl (g := gb194) (by rfl) (by rfl) (by (with_reducible repeat (first | refine blk_drewN ?_ _ | refine blk_drew ?_ | refine blk_alloc ?_ _)); exact BK194.out) (by kernel_rfl) (by rfl) (by rfl) GE194.out ?_; intro ws_ hs_ hk_ hb_; have n0_ := Aside0.mk (Below.trans (by repeat (first | (with_reducible first | exact HB.out | apply below_alloc | apply pw_below_drewN | apply below_drew1) | exact HB.out)) hb_); clear HB; have HB := n0_; clear n0_; clear BK194; have BK194 := Aside0.mk hs_; clear hs_; (try (have z_ := Aside0.mk (blk_else BK195.out NB195_194.out hk_); clear BK195; have BK195 := z_; clear z_)); (try (have z_ := Aside0.mk (blk_else BK196.out NB196_194.out hk_); clear BK196; have BK196 := z_; clear z_)); have hxs_ := blk_cell BK194.out; have hys_ := blk_frozen BK194.out; clear hk_ hb_) | ((with_reducible refine gate_callee (f := 22) rfl ?_); refine goesL_ (some 37) rfl rfl Try.func22 (by kernel_rfl) rfl #[.int .i64 a1_0] rfl (by (try simp only [List.map_toArray, List.map_cons, List.map_nil]); first | done | rfl | (simp only [List.length_drop, List.length_take]; rfl)) ?_; (with_reducible refine (compositorref21_hyphen.calls a1_0 false _ A39.out).mono ?_); rintro e w' ⟨rfl, ⟨nd, rfl⟩⟩; refine ⟨_, rfl, ?_⟩))
                  go_meet
                  case rel => exact ⟨_, (false), (by first | rfl | (simp; done) | (simp [*]; done)), H', ⟨by have := HJ5.out; have := HJ20.out; have := HJ32.out; first | omega | exact Nat.le_refl _⟩, ⟨by (with_reducible repeat (first | refine blk_drewN ?_ _ | refine blk_drew ?_ | refine blk_alloc ?_ _)); exact BK194.out⟩, ⟨by (with_reducible repeat (first | refine blk_drewN ?_ _ | refine blk_drew ?_ | refine blk_alloc ?_ _)); exact BK195.out⟩, ⟨by (with_reducible repeat (first | refine blk_drewN ?_ _ | refine blk_drew ?_ | refine blk_alloc ?_ _)); exact BK196.out⟩, ⟨by repeat (first | (with_reducible first | exact HB.out | apply below_alloc | apply pw_below_drewN | apply below_drew1 | refine below_set ?_ GE194.out | refine below_set ?_ GE195.out | refine below_set ?_ GE196.out) | exact HB.out)⟩⟩
              case rest => as_aux_lemma =>
                clear HC38
                try clear c1
                try clear c2
                try clear p2
                try clear c3
                try clear c4
                try clear p6
                try clear c10
                try clear c11
                try clear c13
                try clear c17
                try clear c18
                try clear c19
                try clear c22
                try clear c23
                try clear c25
                try clear c26
                try clear c28
                try clear c30
                try clear c31
                try clear c34
                try clear c35
                try clear c36
                try clear c40
                try clear c41
                try clear c42
                try clear c44
                try clear c46
                try clear c47
                try clear hcz12_0
                try clear hcz12_1
                try clear hcz12_10
                try clear hcz12_11
                try clear hcz12_12
                try clear hcz12_13
                try clear hcz12_14
                try clear hcz12_15
                try clear hcz12_16
                try clear hcz12_17
                try clear hcz12_18
                try clear hcz12_19
                try clear hcz12_2
                try clear hcz12_20
                try clear hcz12_3
                try clear hcz12_4
                try clear hcz12_5
                try clear hcz12_6
                try clear hcz12_7
                try clear hcz12_8
                try clear hcz12_9
                try clear hcz14_0
                try clear hcz14_1
                try clear hcz14_2
                try clear hcz15_0
                try clear hcz15_1
                try clear hcz15_2
                try clear hcz20_0
                try clear hcz20_1
                try clear hcz20_10
                try clear hcz20_11
                try clear hcz20_12
                try clear hcz20_13
                try clear hcz20_14
                try clear hcz20_15
                try clear hcz20_16
                try clear hcz20_17
                try clear hcz20_18
                try clear hcz20_19
                try clear hcz20_2
                try clear hcz20_20
                try clear hcz20_3
                try clear hcz20_4
                try clear hcz20_5
                try clear hcz20_6
                try clear hcz20_7
                try clear hcz20_8
                try clear hcz20_9
                try clear hcz27_0
                try clear hcz27_1
                try clear hcz27_2
                try clear hcz29_0
                try clear hcz29_1
                try clear hcz29_2
                try clear hcz32_0
                try clear hcz32_1
                try clear hcz32_2
                try clear hcz37_0
                try clear hcz37_1
                try clear hcz37_10
                try clear hcz37_11
                try clear hcz37_12
                try clear hcz37_13
                try clear hcz37_14
                try clear hcz37_15
                try clear hcz37_16
                try clear hcz37_17
                try clear hcz37_18
                try clear hcz37_19
                try clear hcz37_2
                try clear hcz37_20
                try clear hcz37_3
                try clear hcz37_4
                try clear hcz37_5
                try clear hcz37_6
                try clear hcz37_7
                try clear hcz37_8
                try clear hcz37_9
                try clear hcz43_0
                try clear hcz43_1
                try clear hcz43_2
                try clear hcz45_0
                try clear hcz45_1
                try clear hcz45_2
                try clear hcz48_0
                try clear hcz48_1
                try clear hcz48_2
                try clear hfz12_0
                try clear hfz12_1
                try clear hfz12_10
                try clear hfz12_11
                try clear hfz12_12
                try clear hfz12_13
                try clear hfz12_14
                try clear hfz12_15
                try clear hfz12_16
                try clear hfz12_17
                try clear hfz12_18
                try clear hfz12_19
                try clear hfz12_2
                try clear hfz12_20
                try clear hfz12_3
                try clear hfz12_4
                try clear hfz12_5
                try clear hfz12_6
                try clear hfz12_7
                try clear hfz12_8
                try clear hfz12_9
                try clear hfz14_0
                try clear hfz14_1
                try clear hfz14_2
                try clear hfz15_0
                try clear hfz15_1
                try clear hfz15_2
                try clear hfz20_0
                try clear hfz20_1
                try clear hfz20_10
                try clear hfz20_11
                try clear hfz20_12
                try clear hfz20_13
                try clear hfz20_14
                try clear hfz20_15
                try clear hfz20_16
                try clear hfz20_17
                try clear hfz20_18
                try clear hfz20_19
                try clear hfz20_2
                try clear hfz20_20
                try clear hfz20_3
                try clear hfz20_4
                try clear hfz20_5
                try clear hfz20_6
                try clear hfz20_7
                try clear hfz20_8
                try clear hfz20_9
                try clear hfz27_0
                try clear hfz27_1
                try clear hfz27_2
                try clear hfz29_0
                try clear hfz29_1
                try clear hfz29_2
                try clear hfz32_0
                try clear hfz32_1
                try clear hfz32_2
                try clear hfz37_0
                try clear hfz37_1
                try clear hfz37_10
                try clear hfz37_11
                try clear hfz37_12
                try clear hfz37_13
                try clear hfz37_14
                try clear hfz37_15
                try clear hfz37_16
                try clear hfz37_17
                try clear hfz37_18
                try clear hfz37_19
                try clear hfz37_2
                try clear hfz37_20
                try clear hfz37_3
                try clear hfz37_4
                try clear hfz37_5
                try clear hfz37_6
                try clear hfz37_7
                try clear hfz37_8
                try clear hfz37_9
                try clear hfz43_0
                try clear hfz43_1
                try clear hfz43_2
                try clear hfz45_0
                try clear hfz45_1
                try clear hfz45_2
                try clear hfz48_0
                try clear hfz48_1
                try clear hfz48_2
                try clear p2
                try clear p6
                obtain ⟨kq, x42_37, rfl, HA, HJ37, BK194, BK195, BK196, HB⟩ := hcut
                cases kq with
                | zero => exact absurd HA.out (by simp [compositorref21_Both.j3])
                | succ kj37 =>
                  have H := HA.out
                  clear HA
                  simp only [compositorref21_Both.j3] at H
                  have HC49 := Aside0.mk H
                  clear H
                  go_upto_if 42 with (fail)
                  go_cut [9] (fun v9 wc => ∃ (kq : Nat) (x9_48 : Int), v9 = .int .i64 x9_48 ∧ Aside0 (compositorref21_Both.j4 kq x9_48 a0_0 a0_1 a0_2 a0_3 l0_4 a0_5 a0_6 a0_7 a0_8 a0_9 a0_10 a0_11 a0_12 a0_13 a0_14 a0_15 a0_16 a0_17 a0_18 a0_19 a0_20 a2_0 a2_1 a2_2 = some r) ∧ Aside0 (kq ≤ kj37) ∧ Aside0 (wc.heap[gb194]? = some (.cells #[.int .i64 a0_0, .int .i64 a0_1, .int .i64 a0_2, .int .i64 a0_3, (.slice A0_4 l0_4.length c0_4), .int .i64 a0_5, .int .i64 a0_6, .int .i64 a0_7, .int .i64 a0_8, .int .i64 a0_9, .int .i64 a0_10, .int .i64 a0_11, .int .i64 a0_12, .int .i64 a0_13, .int .i64 a0_14, .int .i64 a0_15, .int .i64 a0_16, .int .i64 a0_17, .int .i64 a0_18, .int .i64 a0_19, .int .i64 a0_20] 24 (0, 0))) ∧ Aside0 (wc.heap[gb195]? = some (.cells #[.int .i64 a1_0, .int .i64 a1_1, .int .i64 a1_2] 26 (0, 0))) ∧ Aside0 (wc.heap[gb196]? = some (.cells #[.int .i64 a2_0, .int .i64 a2_1, .int .i64 a2_2] 26 (0, 0))) ∧ Aside0 (Below w.heap.size w wc))
                  case first => as_aux_lemma =>
                    have H := HC49.out
                    clear HC49
                    by_cases c50 : x42_37 = true
                    · subst c50
                      have H1 : (compositorref21_Both.j4 kj37 (wrap64 (x9_32 + a0_17)) a0_0 a0_1 a0_2 a0_3 l0_4 a0_5 a0_6 a0_7 a0_8 a0_9 a0_10 a0_11 a0_12 a0_13 a0_14 a0_15 a0_16 a0_17 a0_18 a0_19 a0_20 a2_0 a2_1 a2_2) = some r := by rw [if_pos rfl] at H; exact H
                      clear H
                      have H := H1
                      clear H1
                      have H' := Aside0.mk H
                      clear H
                      have hnb51 := NB194_195.out
                      have hnc51 := NB195_194.out
                      have hnb52 := NB194_196.out
                      have hnc52 := NB196_194.out
                      have hcz53_0 := blk_cell BK194.out
                      have hfz53_0 := blk_frozen BK194.out
                      go_wp2
                      go_meet
                      case rel => exact ⟨_, (wrap64 (x9_32 + a0_17)), (by first | rfl | (simp; done) | (simp [*]; done)), H', ⟨by have := HJ5.out; have := HJ20.out; have := HJ32.out; have := HJ37.out; first | omega | exact Nat.le_refl _⟩, ⟨by (with_reducible repeat (first | refine blk_drewN ?_ _ | refine blk_drew ?_ | refine blk_alloc ?_ _)); exact BK194.out⟩, ⟨by (with_reducible repeat (first | refine blk_drewN ?_ _ | refine blk_drew ?_ | refine blk_alloc ?_ _)); exact BK195.out⟩, ⟨by (with_reducible repeat (first | refine blk_drewN ?_ _ | refine blk_drew ?_ | refine blk_alloc ?_ _)); exact BK196.out⟩, ⟨by repeat (first | (with_reducible first | exact HB.out | apply below_alloc | apply pw_below_drewN | apply below_drew1 | refine below_set ?_ GE194.out | refine below_set ?_ GE195.out | refine below_set ?_ GE196.out) | exact HB.out)⟩⟩
                    · replace c50 := Bool.eq_false_iff.mpr c50
                      subst c50
                      have H1 : (compositorref21_Both.j4 kj37 x9_32 a0_0 a0_1 a0_2 a0_3 l0_4 a0_5 a0_6 a0_7 a0_8 a0_9 a0_10 a0_11 a0_12 a0_13 a0_14 a0_15 a0_16 a0_17 a0_18 a0_19 a0_20 a2_0 a2_1 a2_2) = some r := by rw [if_neg (show ¬ (false = true) by decide)] at H; exact H
                      clear H
                      have H := H1
                      clear H1
                      have H' := Aside0.mk H
                      clear H
                      go_wp2
                      go_meet
                      case rel => exact ⟨_, (x9_32), (by first | rfl | (simp; done) | (simp [*]; done)), H', ⟨by have := HJ5.out; have := HJ20.out; have := HJ32.out; have := HJ37.out; first | omega | exact Nat.le_refl _⟩, ⟨by (with_reducible repeat (first | refine blk_drewN ?_ _ | refine blk_drew ?_ | refine blk_alloc ?_ _)); exact BK194.out⟩, ⟨by (with_reducible repeat (first | refine blk_drewN ?_ _ | refine blk_drew ?_ | refine blk_alloc ?_ _)); exact BK195.out⟩, ⟨by (with_reducible repeat (first | refine blk_drewN ?_ _ | refine blk_drew ?_ | refine blk_alloc ?_ _)); exact BK196.out⟩, ⟨by repeat (first | (with_reducible first | exact HB.out | apply below_alloc | apply pw_below_drewN | apply below_drew1 | refine below_set ?_ GE194.out | refine below_set ?_ GE195.out | refine below_set ?_ GE196.out) | exact HB.out)⟩⟩
                  case rest => as_aux_lemma =>
                    clear HC49
                    try clear c1
                    try clear c2
                    try clear p2
                    try clear c3
                    try clear c4
                    try clear c5
                    try clear p6
                    try clear c10
                    try clear c11
                    try clear c13
                    try clear c17
                    try clear c18
                    try clear c19
                    try clear c22
                    try clear c23
                    try clear c25
                    try clear c26
                    try clear c28
                    try clear c30
                    try clear c31
                    try clear c34
                    try clear c35
                    try clear c36
                    try clear c40
                    try clear c41
                    try clear c42
                    try clear c44
                    try clear c46
                    try clear c47
                    try clear c50
                    try clear c51
                    try clear c52
                    try clear hcz12_0
                    try clear hcz12_1
                    try clear hcz12_10
                    try clear hcz12_11
                    try clear hcz12_12
                    try clear hcz12_13
                    try clear hcz12_14
                    try clear hcz12_15
                    try clear hcz12_16
                    try clear hcz12_17
                    try clear hcz12_18
                    try clear hcz12_19
                    try clear hcz12_2
                    try clear hcz12_20
                    try clear hcz12_3
                    try clear hcz12_4
                    try clear hcz12_5
                    try clear hcz12_6
                    try clear hcz12_7
                    try clear hcz12_8
                    try clear hcz12_9
                    try clear hcz14_0
                    try clear hcz14_1
                    try clear hcz14_2
                    try clear hcz15_0
                    try clear hcz15_1
                    try clear hcz15_2
                    try clear hcz20_0
                    try clear hcz20_1
                    try clear hcz20_10
                    try clear hcz20_11
                    try clear hcz20_12
                    try clear hcz20_13
                    try clear hcz20_14
                    try clear hcz20_15
                    try clear hcz20_16
                    try clear hcz20_17
                    try clear hcz20_18
                    try clear hcz20_19
                    try clear hcz20_2
                    try clear hcz20_20
                    try clear hcz20_3
                    try clear hcz20_4
                    try clear hcz20_5
                    try clear hcz20_6
                    try clear hcz20_7
                    try clear hcz20_8
                    try clear hcz20_9
                    try clear hcz27_0
                    try clear hcz27_1
                    try clear hcz27_2
                    try clear hcz29_0
                    try clear hcz29_1
                    try clear hcz29_2
                    try clear hcz32_0
                    try clear hcz32_1
                    try clear hcz32_2
                    try clear hcz37_0
                    try clear hcz37_1
                    try clear hcz37_10
                    try clear hcz37_11
                    try clear hcz37_12
                    try clear hcz37_13
                    try clear hcz37_14
                    try clear hcz37_15
                    try clear hcz37_16
                    try clear hcz37_17
                    try clear hcz37_18
                    try clear hcz37_19
                    try clear hcz37_2
                    try clear hcz37_20
                    try clear hcz37_3
                    try clear hcz37_4
                    try clear hcz37_5
                    try clear hcz37_6
                    try clear hcz37_7
                    try clear hcz37_8
                    try clear hcz37_9
                    try clear hcz43_0
                    try clear hcz43_1
                    try clear hcz43_2
                    try clear hcz45_0
                    try clear hcz45_1
                    try clear hcz45_2
                    try clear hcz48_0
                    try clear hcz48_1
                    try clear hcz48_2
                    try clear hcz53_0
                    try clear hcz53_1
                    try clear hcz53_10
                    try clear hcz53_11
                    try clear hcz53_12
                    try clear hcz53_13
                    try clear hcz53_14
                    try clear hcz53_15
                    try clear hcz53_16
                    try clear hcz53_17
                    try clear hcz53_18
                    try clear hcz53_19
                    try clear hcz53_2
                    try clear hcz53_20
                    try clear hcz53_3
                    try clear hcz53_4
                    try clear hcz53_5
                    try clear hcz53_6
                    try clear hcz53_7
                    try clear hcz53_8
                    try clear hcz53_9
                    try clear hfz12_0
                    try clear hfz12_1
                    try clear hfz12_10
                    try clear hfz12_11
                    try clear hfz12_12
                    try clear hfz12_13
                    try clear hfz12_14
                    try clear hfz12_15
                    try clear hfz12_16
                    try clear hfz12_17
                    try clear hfz12_18
                    try clear hfz12_19
                    try clear hfz12_2
                    try clear hfz12_20
                    try clear hfz12_3
                    try clear hfz12_4
                    try clear hfz12_5
                    try clear hfz12_6
                    try clear hfz12_7
                    try clear hfz12_8
                    try clear hfz12_9
                    try clear hfz14_0
                    try clear hfz14_1
                    try clear hfz14_2
                    try clear hfz15_0
                    try clear hfz15_1
                    try clear hfz15_2
                    try clear hfz20_0
                    try clear hfz20_1
                    try clear hfz20_10
                    try clear hfz20_11
                    try clear hfz20_12
                    try clear hfz20_13
                    try clear hfz20_14
                    try clear hfz20_15
                    try clear hfz20_16
                    try clear hfz20_17
                    try clear hfz20_18
                    try clear hfz20_19
                    try clear hfz20_2
                    try clear hfz20_20
                    try clear hfz20_3
                    try clear hfz20_4
                    try clear hfz20_5
                    try clear hfz20_6
                    try clear hfz20_7
                    try clear hfz20_8
                    try clear hfz20_9
                    try clear hfz27_0
                    try clear hfz27_1
                    try clear hfz27_2
                    try clear hfz29_0
                    try clear hfz29_1
                    try clear hfz29_2
                    try clear hfz32_0
                    try clear hfz32_1
                    try clear hfz32_2
                    try clear hfz37_0
                    try clear hfz37_1
                    try clear hfz37_10
                    try clear hfz37_11
                    try clear hfz37_12
                    try clear hfz37_13
                    try clear hfz37_14
                    try clear hfz37_15
                    try clear hfz37_16
                    try clear hfz37_17
                    try clear hfz37_18
                    try clear hfz37_19
                    try clear hfz37_2
                    try clear hfz37_20
                    try clear hfz37_3
                    try clear hfz37_4
                    try clear hfz37_5
                    try clear hfz37_6
                    try clear hfz37_7
                    try clear hfz37_8
                    try clear hfz37_9
                    try clear hfz43_0
                    try clear hfz43_1
                    try clear hfz43_2
                    try clear hfz45_0
                    try clear hfz45_1
                    try clear hfz45_2
                    try clear hfz48_0
                    try clear hfz48_1
                    try clear hfz48_2
                    try clear hfz53_0
                    try clear hfz53_1
                    try clear hfz53_10
                    try clear hfz53_11
                    try clear hfz53_12
                    try clear hfz53_13
                    try clear hfz53_14
                    try clear hfz53_15
                    try clear hfz53_16
                    try clear hfz53_17
                    try clear hfz53_18
                    try clear hfz53_19
                    try clear hfz53_2
                    try clear hfz53_20
                    try clear hfz53_3
                    try clear hfz53_4
                    try clear hfz53_5
                    try clear hfz53_6
                    try clear hfz53_7
                    try clear hfz53_8
                    try clear hfz53_9
                    try clear p2
                    try clear p6
                    obtain ⟨kq, x9_48, rfl, HA, HJ48, BK194, BK195, BK196, HB⟩ := hcut
                    cases kq with
                    | zero => exact absurd HA.out (by simp [compositorref21_Both.j4])
                    | succ kj48 =>
                      have H := HA.out
                      clear HA
                      simp only [compositorref21_Both.j4] at H
                      by_cases c54 : a2_2 = 3
                      · rw [if_pos c54] at H
                        have c54b0 : (a2_2 == 3) = true := beq_iff_eq.mpr c54
                        have c54b1 : (a2_2 != 3) = false := bne_eq_false_iff_eq.mpr c54
                        clear c54
                        by_cases c55 : a2_2 ≥ 4
                        · rw [if_pos c55] at H
                          have c55b0 : decide (4 ≤ a2_2) = true := decide_eq_true c55
                          clear c55
                          obtain rfl := Option.some.inj H
                          have hnb56 := NB196_194.out
                          have hnc56 := NB194_196.out
                          have hnb57 := NB196_195.out
                          have hnc57 := NB195_196.out
                          have hcz58_0 : wc.cell? ⟨gb196, 0, none⟩ = some (.int .i64 a2_0) := (blk_cell BK196.out 0).trans rfl
                          have hcz58_1 : wc.cell? ⟨gb196, 1, none⟩ = some (.int .i64 a2_1) := (blk_cell BK196.out 1).trans rfl
                          have hcz58_2 : wc.cell? ⟨gb196, 2, none⟩ = some (.int .i64 a2_2) := (blk_cell BK196.out 2).trans rfl
                          have hfz58_0 := blk_frozen BK196.out 0
                          have hfz58_1 := blk_frozen BK196.out 1
                          have hfz58_2 := blk_frozen BK196.out 2
                          have hnb59 := NB194_195.out
                          have hnc59 := NB195_194.out
                          have hcz60_0 := blk_cell BK194.out
                          have hfz60_0 := blk_frozen BK194.out
                          go_wp2
                          go_ret
                          exact ⟨by first | rfl | (simp [errW_none, errW_some] <;> rfl) | (simp [*, errW_none, errW_some] <;> rfl), by repeat (first | (with_reducible first | exact HB.out | apply below_alloc | apply pw_below_drewN | apply below_drew1 | refine below_set ?_ GE194.out | refine below_set ?_ GE195.out | refine below_set ?_ GE196.out) | exact HB.out)⟩
                        · rw [if_neg c55] at H
                          have c55b0 : decide (4 ≤ a2_2) = false := decide_eq_false c55
                          clear c55
                          obtain rfl := Option.some.inj H
                          have hnb61 := NB196_194.out
                          have hnc61 := NB194_196.out
                          have hnb62 := NB196_195.out
                          have hnc62 := NB195_196.out
                          have hcz63_0 : wc.cell? ⟨gb196, 0, none⟩ = some (.int .i64 a2_0) := (blk_cell BK196.out 0).trans rfl
                          have hcz63_1 : wc.cell? ⟨gb196, 1, none⟩ = some (.int .i64 a2_1) := (blk_cell BK196.out 1).trans rfl
                          have hcz63_2 : wc.cell? ⟨gb196, 2, none⟩ = some (.int .i64 a2_2) := (blk_cell BK196.out 2).trans rfl
                          have hfz63_0 := blk_frozen BK196.out 0
                          have hfz63_1 := blk_frozen BK196.out 1
                          have hfz63_2 := blk_frozen BK196.out 2
                          have hnb64 := NB194_195.out
                          have hnc64 := NB195_194.out
                          have hcz65_0 := blk_cell BK194.out
                          have hfz65_0 := blk_frozen BK194.out
                          go_wp2
                          go_ret
                          exact ⟨by first | rfl | (simp [errW_none, errW_some] <;> rfl) | (simp [*, errW_none, errW_some] <;> rfl), by repeat (first | (with_reducible first | exact HB.out | apply below_alloc | apply pw_below_drewN | apply below_drew1 | refine below_set ?_ GE194.out | refine below_set ?_ GE195.out | refine below_set ?_ GE196.out) | exact HB.out)⟩
                      · rw [if_neg c54] at H
                        have c54b0 : (a2_2 == 3) = false := beq_eq_false_iff_ne.mpr c54
                        have c54b1 : (a2_2 != 3) = true := bne_iff_ne.mpr c54
                        by_cases c66 : a2_2 ≥ 4
                        · rw [if_pos c66] at H
                          have c66b0 : decide (4 ≤ a2_2) = true := decide_eq_true c66
                          clear c66
                          obtain rfl := Option.some.inj H
                          have hnb67 := NB196_194.out
                          have hnc67 := NB194_196.out
                          have hnb68 := NB196_195.out
                          have hnc68 := NB195_196.out
                          have hcz69_0 : wc.cell? ⟨gb196, 0, none⟩ = some (.int .i64 a2_0) := (blk_cell BK196.out 0).trans rfl
                          have hcz69_1 : wc.cell? ⟨gb196, 1, none⟩ = some (.int .i64 a2_1) := (blk_cell BK196.out 1).trans rfl
                          have hcz69_2 : wc.cell? ⟨gb196, 2, none⟩ = some (.int .i64 a2_2) := (blk_cell BK196.out 2).trans rfl
                          have hfz69_0 := blk_frozen BK196.out 0
                          have hfz69_1 := blk_frozen BK196.out 1
                          have hfz69_2 := blk_frozen BK196.out 2
                          have hnb70 := NB194_195.out
                          have hnc70 := NB195_194.out
                          have hcz71_0 := blk_cell BK194.out
                          have hfz71_0 := blk_frozen BK194.out
                          go_wp2
                          go_ret
                          exact ⟨by first | rfl | (simp [errW_none, errW_some] <;> rfl) | (simp [*, errW_none, errW_some] <;> rfl), by repeat (first | (with_reducible first | exact HB.out | apply below_alloc | apply pw_below_drewN | apply below_drew1 | refine below_set ?_ GE194.out | refine below_set ?_ GE195.out | refine below_set ?_ GE196.out) | exact HB.out)⟩
                        · rw [if_neg c66] at H
                          have c66b0 : decide (4 ≤ a2_2) = false := decide_eq_false c66
                          clear c66
                          obtain rfl := Option.some.inj H
                          have hnb72 := NB196_194.out
                          have hnc72 := NB194_196.out
                          have hnb73 := NB196_195.out
                          have hnc73 := NB195_196.out
                          have hcz74_0 : wc.cell? ⟨gb196, 0, none⟩ = some (.int .i64 a2_0) := (blk_cell BK196.out 0).trans rfl
                          have hcz74_1 : wc.cell? ⟨gb196, 1, none⟩ = some (.int .i64 a2_1) := (blk_cell BK196.out 1).trans rfl
                          have hcz74_2 : wc.cell? ⟨gb196, 2, none⟩ = some (.int .i64 a2_2) := (blk_cell BK196.out 2).trans rfl
                          have hfz74_0 := blk_frozen BK196.out 0
                          have hfz74_1 := blk_frozen BK196.out 1
                          have hfz74_2 := blk_frozen BK196.out 2
                          go_wp2
                          go_ret
                          exact ⟨by first | rfl | (simp [errW_none, errW_some] <;> rfl) | (simp [*, errW_none, errW_some] <;> rfl), by repeat (first | (with_reducible first | exact HB.out | apply below_alloc | apply pw_below_drewN | apply below_drew1 | refine below_set ?_ GE194.out | refine below_set ?_ GE195.out | refine below_set ?_ GE196.out) | exact HB.out)⟩

end Go.Proofs.Ytejpnfaaboicdaa.G
