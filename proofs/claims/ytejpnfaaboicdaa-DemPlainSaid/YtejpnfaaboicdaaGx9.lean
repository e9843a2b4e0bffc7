/- Contracts of the functions of this seat: what each call computes, as a plain Lean function. Made by this session's own generator. -/
import Derived.Test.YtejpnfaaboicdaaGx0
import Derived.Test.YtejpnfaaboicdaaGx8
namespace Go.Proofs.Ytejpnfaaboicdaa.G
open Go.RowKit Go.Proofs.YtejpnfaaboicdaaMy Go.Proofs.YtejpnfaaboicdaaW.PrintWords Go.Proofs.YtejpnfaaboicdaaW.PrintLast Go.Proofs.YtejpnfaaboicdaaW.PrintMore
attribute [local go_sem] max2_int min2_int max_two min_two max_three min_three max_four min_four   -- for this text's walks alone
set_option linter.unusedVariables false
set_option linter.unusedSimpArgs false

/-! ### compositorref14_Check: function 15 -/
mutual
def compositorref14_Check.j0 : Nat → Bool → Int → Int → Int → Int → List (S47) → Int → Int → Int → Int → Int → Int → Int → Int → Int → Int → Int → Int → Int → Int → Int → Int → Option (Bool)
 | 0, _, _, _, _, _, _, _, _, _, _, _, _, _, _, _, _, _, _, _, _, _, _ => none
 | k + 1, x3, x163000, x163001, x163002, x163003, x163004, x163005, x163006, x163007, x163008, x163009, x163010, x163011, x163012, x163013, x163014, x163015, x163016, x163017, x163018, x163019, x163020 => (compositorref14_in.f x163005 (wrap64 (1 - x163000)) (wrap64 (x163000 - 1))).bind fun t167 => (if t167 = true then ((compositorref14_in.f x163006 (-100) 100).bind fun t168 => (if t168 = true then ((compositorref14_in.f x163007 0 40).bind fun t169 => (if t169 = true then ((compositorref14_in.f x163008 0 40).bind fun t170 => (if t170 = true then ((compositorref14_in.f x163009 (-1) 10000).bind fun t171 => (if t171 = true then ((compositorref14_in.f x163010 0 10000).bind fun t172 => (if t172 = true then ((compositorref14_in.f x163011 0 67108864).bind fun t173 => (compositorref14_Check.j1 k x3 t173 x163000 x163001 x163002 x163003 x163004 x163005 x163006 x163007 x163008 x163009 x163010 x163011 x163012 x163013 x163014 x163015 x163016 x163017 x163018 x163019 x163020)) else (compositorref14_Check.j1 k x3 false x163000 x163001 x163002 x163003 x163004 x163005 x163006 x163007 x163008 x163009 x163010 x163011 x163012 x163013 x163014 x163015 x163016 x163017 x163018 x163019 x163020))) else (compositorref14_Check.j1 k x3 false x163000 x163001 x163002 x163003 x163004 x163005 x163006 x163007 x163008 x163009 x163010 x163011 x163012 x163013 x163014 x163015 x163016 x163017 x163018 x163019 x163020))) else (compositorref14_Check.j1 k x3 false x163000 x163001 x163002 x163003 x163004 x163005 x163006 x163007 x163008 x163009 x163010 x163011 x163012 x163013 x163014 x163015 x163016 x163017 x163018 x163019 x163020))) else (compositorref14_Check.j1 k x3 false x163000 x163001 x163002 x163003 x163004 x163005 x163006 x163007 x163008 x163009 x163010 x163011 x163012 x163013 x163014 x163015 x163016 x163017 x163018 x163019 x163020))) else (compositorref14_Check.j1 k x3 false x163000 x163001 x163002 x163003 x163004 x163005 x163006 x163007 x163008 x163009 x163010 x163011 x163012 x163013 x163014 x163015 x163016 x163017 x163018 x163019 x163020))) else (compositorref14_Check.j1 k x3 false x163000 x163001 x163002 x163003 x163004 x163005 x163006 x163007 x163008 x163009 x163010 x163011 x163012 x163013 x163014 x163015 x163016 x163017 x163018 x163019 x163020))
def compositorref14_Check.j1 : Nat → Bool → Bool → Int → Int → Int → Int → List (S47) → Int → Int → Int → Int → Int → Int → Int → Int → Int → Int → Int → Int → Int → Int → Int → Int → Option (Bool)
 | 0, _, _, _, _, _, _, _, _, _, _, _, _, _, _, _, _, _, _, _, _, _, _, _ => none
 | k + 1, x3, x4, x163000, x163001, x163002, x163003, x163004, x163005, x163006, x163007, x163008, x163009, x163010, x163011, x163012, x163013, x163014, x163015, x163016, x163017, x163018, x163019, x163020 => (compositorref14_in.f x163012 0 1000).bind fun t174 => (if t174 = true then ((compositorref14_in.f x163013 (-1000) 1000).bind fun t175 => (if t175 = true then ((compositorref14_in.f x163014 (-1000) 1000).bind fun t176 => (if t176 = true then ((compositorref14_in.f x163020 (-5) 5).bind fun t177 => (compositorref14_Check.j2 k x3 x4 t177 x163000 x163001 x163002 x163003 x163004 x163005 x163006 x163007 x163008 x163009 x163010 x163011 x163012 x163013 x163014 x163015 x163016 x163017 x163018 x163019 x163020)) else (compositorref14_Check.j2 k x3 x4 false x163000 x163001 x163002 x163003 x163004 x163005 x163006 x163007 x163008 x163009 x163010 x163011 x163012 x163013 x163014 x163015 x163016 x163017 x163018 x163019 x163020))) else (compositorref14_Check.j2 k x3 x4 false x163000 x163001 x163002 x163003 x163004 x163005 x163006 x163007 x163008 x163009 x163010 x163011 x163012 x163013 x163014 x163015 x163016 x163017 x163018 x163019 x163020))) else (compositorref14_Check.j2 k x3 x4 false x163000 x163001 x163002 x163003 x163004 x163005 x163006 x163007 x163008 x163009 x163010 x163011 x163012 x163013 x163014 x163015 x163016 x163017 x163018 x163019 x163020))
def compositorref14_Check.j2 : Nat → Bool → Bool → Bool → Int → Int → Int → Int → List (S47) → Int → Int → Int → Int → Int → Int → Int → Int → Int → Int → Int → Int → Int → Int → Int → Int → Option (Bool)
 | 0, _, _, _, _, _, _, _, _, _, _, _, _, _, _, _, _, _, _, _, _, _, _, _, _ => none
 | k + 1, x3, x4, x5, x163000, x163001, x163002, x163003, x163004, x163005, x163006, x163007, x163008, x163009, x163010, x163011, x163012, x163013, x163014, x163015, x163016, x163017, x163018, x163019, x163020 => (compositorref14_in.f x163015 0 10000).bind fun t178 => (if t178 = true then ((compositorref14_in.f x163016 0 10000).bind fun t179 => (if t179 = true then ((compositorref14_in.f x163017 0 10000).bind fun t180 => (if t180 = true then ((compositorref14_in.f x163018 0 10000).bind fun t181 => (if t181 = true then ((compositorref14_in.f x163019 0 10000).bind fun t182 => (compositorref14_Check.j3 k x3 x4 x5 t182 x163000 x163001 x163002 x163003 x163004 x163005 x163006 x163007 x163008 x163009 x163010 x163011 x163012 x163013 x163014 x163015 x163016 x163017 x163018 x163019 x163020)) else (compositorref14_Check.j3 k x3 x4 x5 false x163000 x163001 x163002 x163003 x163004 x163005 x163006 x163007 x163008 x163009 x163010 x163011 x163012 x163013 x163014 x163015 x163016 x163017 x163018 x163019 x163020))) else (compositorref14_Check.j3 k x3 x4 x5 false x163000 x163001 x163002 x163003 x163004 x163005 x163006 x163007 x163008 x163009 x163010 x163011 x163012 x163013 x163014 x163015 x163016 x163017 x163018 x163019 x163020))) else (compositorref14_Check.j3 k x3 x4 x5 false x163000 x163001 x163002 x163003 x163004 x163005 x163006 x163007 x163008 x163009 x163010 x163011 x163012 x163013 x163014 x163015 x163016 x163017 x163018 x163019 x163020))) else (compositorref14_Check.j3 k x3 x4 x5 false x163000 x163001 x163002 x163003 x163004 x163005 x163006 x163007 x163008 x163009 x163010 x163011 x163012 x163013 x163014 x163015 x163016 x163017 x163018 x163019 x163020))
def compositorref14_Check.j3 : Nat → Bool → Bool → Bool → Bool → Int → Int → Int → Int → List (S47) → Int → Int → Int → Int → Int → Int → Int → Int → Int → Int → Int → Int → Int → Int → Int → Int → Option (Bool)
 | 0, _, _, _, _, _, _, _, _, _, _, _, _, _, _, _, _, _, _, _, _, _, _, _, _, _ => none
 | k + 1, x3, x4, x5, x6, x163000, x163001, x163002, x163003, x163004, x163005, x163006, x163007, x163008, x163009, x163010, x163011, x163012, x163013, x163014, x163015, x163016, x163017, x163018, x163019, x163020 => if x3 = true then (if x4 = true then (if x5 = true then (compositorref14_Check.j4 k (!x6) x163000 x163001 x163002 x163003 x163004 x163005 x163006 x163007 x163008 x163009 x163010 x163011 x163012 x163013 x163014 x163015 x163016 x163017 x163018 x163019 x163020) else (compositorref14_Check.j4 k true x163000 x163001 x163002 x163003 x163004 x163005 x163006 x163007 x163008 x163009 x163010 x163011 x163012 x163013 x163014 x163015 x163016 x163017 x163018 x163019 x163020)) else (compositorref14_Check.j4 k true x163000 x163001 x163002 x163003 x163004 x163005 x163006 x163007 x163008 x163009 x163010 x163011 x163012 x163013 x163014 x163015 x163016 x163017 x163018 x163019 x163020)) else (compositorref14_Check.j4 k true x163000 x163001 x163002 x163003 x163004 x163005 x163006 x163007 x163008 x163009 x163010 x163011 x163012 x163013 x163014 x163015 x163016 x163017 x163018 x163019 x163020)
def compositorref14_Check.j4 : Nat → Bool → Int → Int → Int → Int → List (S47) → Int → Int → Int → Int → Int → Int → Int → Int → Int → Int → Int → Int → Int → Int → Int → Int → Option (Bool)
 | 0, _, _, _, _, _, _, _, _, _, _, _, _, _, _, _, _, _, _, _, _, _, _ => none
 | k + 1, x125, x163000, x163001, x163002, x163003, x163004, x163005, x163006, x163007, x163008, x163009, x163010, x163011, x163012, x163013, x163014, x163015, x163016, x163017, x163018, x163019, x163020 => if x125 = true then (some false) else (compositorref14_Check.l0 k 0 x163000 x163001 x163002 x163003 x163004 x163005 x163006 x163007 x163008 x163009 x163010 x163011 x163012 x163013 x163014 x163015 x163016 x163017 x163018 x163019 x163020)
def compositorref14_Check.l0 : Nat → Int → Int → Int → Int → Int → List (S47) → Int → Int → Int → Int → Int → Int → Int → Int → Int → Int → Int → Int → Int → Int → Int → Int → Option (Bool)
 | 0, _, _, _, _, _, _, _, _, _, _, _, _, _, _, _, _, _, _, _, _, _, _ => none
 | k + 1, x7, x163000, x163001, x163002, x163003, x163004, x163005, x163006, x163007, x163008, x163009, x163010, x163011, x163012, x163013, x163014, x163015, x163016, x163017, x163018, x163019, x163020 => if x7 < (x163004.length : Int) then (if 0 ≤ x7 then ((compositorref14_in.f ((rd_T47 x163004 x7).f0) 0 67108864).bind fun t184 => (if t184 = true then ((compositorref14_in.f ((rd_T47 x163004 x7).f1) 1 67108864).bind fun t186 => (if t186 = true then (compositorref14_Check.l0 k (wrap64 (x7 + 1)) x163000 x163001 x163002 x163003 x163004 x163005 x163006 x163007 x163008 x163009 x163010 x163011 x163012 x163013 x163014 x163015 x163016 x163017 x163018 x163019 x163020) else (some false))) else (some false))) else (none)) else (some true)
end
def compositorref14_Check.f (k : Nat) (a0_0 : Int) (a0_1 : Int) (a0_2 : Int) (a0_3 : Int) (l0_4 : List (S47)) (a0_5 : Int) (a0_6 : Int) (a0_7 : Int) (a0_8 : Int) (a0_9 : Int) (a0_10 : Int) (a0_11 : Int) (a0_12 : Int) (a0_13 : Int) (a0_14 : Int) (a0_15 : Int) (a0_16 : Int) (a0_17 : Int) (a0_18 : Int) (a0_19 : Int) (a0_20 : Int) : Option (Bool) := (compositorref14_in.f a0_0 1 67108864).bind fun t163 => (if t163 = true then ((compositorref14_in.f a0_1 0 4194304).bind fun t164 => (if t164 = true then ((compositorref14_in.f a0_2 0 4194304).bind fun t165 => (if t165 = true then ((compositorref14_in.f a0_3 0 4194304).bind fun t166 => (if t166 = true then (compositorref14_Check.j0 k (decide ((l0_4.length : Int) ≤ 40)) a0_0 a0_1 a0_2 a0_3 l0_4 a0_5 a0_6 a0_7 a0_8 a0_9 a0_10 a0_11 a0_12 a0_13 a0_14 a0_15 a0_16 a0_17 a0_18 a0_19 a0_20) else (compositorref14_Check.j0 k false a0_0 a0_1 a0_2 a0_3 l0_4 a0_5 a0_6 a0_7 a0_8 a0_9 a0_10 a0_11 a0_12 a0_13 a0_14 a0_15 a0_16 a0_17 a0_18 a0_19 a0_20))) else (compositorref14_Check.j0 k false a0_0 a0_1 a0_2 a0_3 l0_4 a0_5 a0_6 a0_7 a0_8 a0_9 a0_10 a0_11 a0_12 a0_13 a0_14 a0_15 a0_16 a0_17 a0_18 a0_19 a0_20))) else (compositorref14_Check.j0 k false a0_0 a0_1 a0_2 a0_3 l0_4 a0_5 a0_6 a0_7 a0_8 a0_9 a0_10 a0_11 a0_12 a0_13 a0_14 a0_15 a0_16 a0_17 a0_18 a0_19 a0_20))) else (compositorref14_Check.j0 k false a0_0 a0_1 a0_2 a0_3 l0_4 a0_5 a0_6 a0_7 a0_8 a0_9 a0_10 a0_11 a0_12 a0_13 a0_14 a0_15 a0_16 a0_17 a0_18 a0_19 a0_20))
theorem compositorref14_Check.mono_l : ∀ k, (∀ y0 y1 y2 y3 y4 y5 y6 y7 y8 y9 y10 y11 y12 y13 y14 y15 y16 y17 y18 y19 y20 y21, LeO (compositorref14_Check.j0 k y0 y1 y2 y3 y4 y5 y6 y7 y8 y9 y10 y11 y12 y13 y14 y15 y16 y17 y18 y19 y20 y21) (compositorref14_Check.j0 (k + 1) y0 y1 y2 y3 y4 y5 y6 y7 y8 y9 y10 y11 y12 y13 y14 y15 y16 y17 y18 y19 y20 y21)) ∧ (∀ y0 y1 y2 y3 y4 y5 y6 y7 y8 y9 y10 y11 y12 y13 y14 y15 y16 y17 y18 y19 y20 y21 y22, LeO (compositorref14_Check.j1 k y0 y1 y2 y3 y4 y5 y6 y7 y8 y9 y10 y11 y12 y13 y14 y15 y16 y17 y18 y19 y20 y21 y22) (compositorref14_Check.j1 (k + 1) y0 y1 y2 y3 y4 y5 y6 y7 y8 y9 y10 y11 y12 y13 y14 y15 y16 y17 y18 y19 y20 y21 y22)) ∧ (∀ y0 y1 y2 y3 y4 y5 y6 y7 y8 y9 y10 y11 y12 y13 y14 y15 y16 y17 y18 y19 y20 y21 y22 y23, LeO (compositorref14_Check.j2 k y0 y1 y2 y3 y4 y5 y6 y7 y8 y9 y10 y11 y12 y13 y14 y15 y16 y17 y18 y19 y20 y21 y22 y23) (compositorref14_Check.j2 (k + 1) y0 y1 y2 y3 y4 y5 y6 y7 y8 y9 y10 y11 y12 y13 y14 y15 y16 y17 y18 y19 y20 y21 y22 y23)) ∧ (∀ y0 y1 y2 y3 y4 y5 y6 y7 y8 y9 y10 y11 y12 y13 y14 y15 y16 y17 y18 y19 y20 y21 y22 y23 y24, LeO (compositorref14_Check.j3 k y0 y1 y2 y3 y4 y5 y6 y7 y8 y9 y10 y11 y12 y13 y14 y15 y16 y17 y18 y19 y20 y21 y22 y23 y24) (compositorref14_Check.j3 (k + 1) y0 y1 y2 y3 y4 y5 y6 y7 y8 y9 y10 y11 y12 y13 y14 y15 y16 y17 y18 y19 y20 y21 y22 y23 y24)) ∧ (∀ y0 y1 y2 y3 y4 y5 y6 y7 y8 y9 y10 y11 y12 y13 y14 y15 y16 y17 y18 y19 y20 y21, LeO (compositorref14_Check.j4 k y0 y1 y2 y3 y4 y5 y6 y7 y8 y9 y10 y11 y12 y13 y14 y15 y16 y17 y18 y19 y20 y21) (compositorref14_Check.j4 (k + 1) y0 y1 y2 y3 y4 y5 y6 y7 y8 y9 y10 y11 y12 y13 y14 y15 y16 y17 y18 y19 y20 y21)) ∧ (∀ y0 y1 y2 y3 y4 y5 y6 y7 y8 y9 y10 y11 y12 y13 y14 y15 y16 y17 y18 y19 y20 y21, LeO (compositorref14_Check.l0 k y0 y1 y2 y3 y4 y5 y6 y7 y8 y9 y10 y11 y12 y13 y14 y15 y16 y17 y18 y19 y20 y21) (compositorref14_Check.l0 (k + 1) y0 y1 y2 y3 y4 y5 y6 y7 y8 y9 y10 y11 y12 y13 y14 y15 y16 y17 y18 y19 y20 y21))
 | 0 => ⟨fun _ _ _ _ _ _ _ _ _ _ _ _ _ _ _ _ _ _ _ _ _ _ r h => by simp [compositorref14_Check.j0] at h, fun _ _ _ _ _ _ _ _ _ _ _ _ _ _ _ _ _ _ _ _ _ _ _ r h => by simp [compositorref14_Check.j1] at h, fun _ _ _ _ _ _ _ _ _ _ _ _ _ _ _ _ _ _ _ _ _ _ _ _ r h => by simp [compositorref14_Check.j2] at h, fun _ _ _ _ _ _ _ _ _ _ _ _ _ _ _ _ _ _ _ _ _ _ _ _ _ r h => by simp [compositorref14_Check.j3] at h, fun _ _ _ _ _ _ _ _ _ _ _ _ _ _ _ _ _ _ _ _ _ _ r h => by simp [compositorref14_Check.j4] at h, fun _ _ _ _ _ _ _ _ _ _ _ _ _ _ _ _ _ _ _ _ _ _ r h => by simp [compositorref14_Check.l0] at h⟩
 | k + 1 => by
  obtain ⟨ih0, ih1, ih2, ih3, ih4, ih5⟩ := compositorref14_Check.mono_l k
  refine ⟨?_, ?_, ?_, ?_, ?_, ?_⟩
  ·intro y0 y1 y2 y3 y4 y5 y6 y7 y8 y9 y10 y11 y12 y13 y14 y15 y16 y17 y18 y19 y20 y21
   unfold compositorref14_Check.j0
   repeat' first
   | (with_reducible exact ih0 _ _ _ _ _ _ _ _ _ _ _ _ _ _ _ _ _ _ _ _ _ _)
   | (with_reducible exact ih1 _ _ _ _ _ _ _ _ _ _ _ _ _ _ _ _ _ _ _ _ _ _ _)
   | (with_reducible exact ih2 _ _ _ _ _ _ _ _ _ _ _ _ _ _ _ _ _ _ _ _ _ _ _ _)
   | (with_reducible exact ih3 _ _ _ _ _ _ _ _ _ _ _ _ _ _ _ _ _ _ _ _ _ _ _ _ _)
   | (with_reducible exact ih4 _ _ _ _ _ _ _ _ _ _ _ _ _ _ _ _ _ _ _ _ _ _)
   | (with_reducible exact ih5 _ _ _ _ _ _ _ _ _ _ _ _ _ _ _ _ _ _ _ _ _ _)
   | (with_reducible exact LeO.refl _)
   | (with_reducible exact LeO.none _)
   | (with_reducible refine LeO.ite ?_ ?_)
   | (with_reducible refine LeO.bind ?_ (fun _ => ?_))
   | exact ih0 _ _ _ _ _ _ _ _ _ _ _ _ _ _ _ _ _ _ _ _ _ _
   | exact ih1 _ _ _ _ _ _ _ _ _ _ _ _ _ _ _ _ _ _ _ _ _ _ _
   | exact ih2 _ _ _ _ _ _ _ _ _ _ _ _ _ _ _ _ _ _ _ _ _ _ _ _
   | exact ih3 _ _ _ _ _ _ _ _ _ _ _ _ _ _ _ _ _ _ _ _ _ _ _ _ _
   | exact ih4 _ _ _ _ _ _ _ _ _ _ _ _ _ _ _ _ _ _ _ _ _ _
   | exact ih5 _ _ _ _ _ _ _ _ _ _ _ _ _ _ _ _ _ _ _ _ _ _
   | exact LeO.none _
   | refine LeO.ite ?_ ?_
   | refine LeO.bind ?_ (fun _ => ?_)
  ·intro y0 y1 y2 y3 y4 y5 y6 y7 y8 y9 y10 y11 y12 y13 y14 y15 y16 y17 y18 y19 y20 y21 y22
   unfold compositorref14_Check.j1
   repeat' first
   | (with_reducible exact ih0 _ _ _ _ _ _ _ _ _ _ _ _ _ _ _ _ _ _ _ _ _ _)
   | (with_reducible exact ih1 _ _ _ _ _ _ _ _ _ _ _ _ _ _ _ _ _ _ _ _ _ _ _)
   | (with_reducible exact ih2 _ _ _ _ _ _ _ _ _ _ _ _ _ _ _ _ _ _ _ _ _ _ _ _)
   | (with_reducible exact ih3 _ _ _ _ _ _ _ _ _ _ _ _ _ _ _ _ _ _ _ _ _ _ _ _ _)
   | (with_reducible exact ih4 _ _ _ _ _ _ _ _ _ _ _ _ _ _ _ _ _ _ _ _ _ _)
   | (with_reducible exact ih5 _ _ _ _ _ _ _ _ _ _ _ _ _ _ _ _ _ _ _ _ _ _)
   | (with_reducible exact LeO.refl _)
   | (with_reducible exact LeO.none _)
   | (with_reducible refine LeO.ite ?_ ?_)
   | (with_reducible refine LeO.bind ?_ (fun _ => ?_))
   | exact ih0 _ _ _ _ _ _ _ _ _ _ _ _ _ _ _ _ _ _ _ _ _ _
   | exact ih1 _ _ _ _ _ _ _ _ _ _ _ _ _ _ _ _ _ _ _ _ _ _ _
   | exact ih2 _ _ _ _ _ _ _ _ _ _ _ _ _ _ _ _ _ _ _ _ _ _ _ _
   | exact ih3 _ _ _ _ _ _ _ _ _ _ _ _ _ _ _ _ _ _ _ _ _ _ _ _ _
   | exact ih4 _ _ _ _ _ _ _ _ _ _ _ _ _ _ _ _ _ _ _ _ _ _
   | exact ih5 _ _ _ _ _ _ _ _ _ _ _ _ _ _ _ _ _ _ _ _ _ _
   | exact LeO.none _
   | refine LeO.ite ?_ ?_
   | refine LeO.bind ?_ (fun _ => ?_)
  ·intro y0 y1 y2 y3 y4 y5 y6 y7 y8 y9 y10 y11 y12 y13 y14 y15 y16 y17 y18 y19 y20 y21 y22 y23
   unfold compositorref14_Check.j2
   repeat' first
   | (with_reducible exact ih0 _ _ _ _ _ _ _ _ _ _ _ _ _ _ _ _ _ _ _ _ _ _)
   | (with_reducible exact ih1 _ _ _ _ _ _ _ _ _ _ _ _ _ _ _ _ _ _ _ _ _ _ _)
   | (with_reducible exact ih2 _ _ _ _ _ _ _ _ _ _ _ _ _ _ _ _ _ _ _ _ _ _ _ _)
   | (with_reducible exact ih3 _ _ _ _ _ _ _ _ _ _ _ _ _ _ _ _ _ _ _ _ _ _ _ _ _)
   | (with_reducible exact ih4 _ _ _ _ _ _ _ _ _ _ _ _ _ _ _ _ _ _ _ _ _ _)
   | (with_reducible exact ih5 _ _ _ _ _ _ _ _ _ _ _ _ _ _ _ _ _ _ _ _ _ _)
   | (with_reducible exact LeO.refl _)
   | (with_reducible exact LeO.none _)
   | (with_reducible refine LeO.ite ?_ ?_)
   | (with_reducible refine LeO.bind ?_ (fun _ => ?_))
   | exact ih0 _ _ _ _ _ _ _ _ _ _ _ _ _ _ _ _ _ _ _ _ _ _
   | exact ih1 _ _ _ _ _ _ _ _ _ _ _ _ _ _ _ _ _ _ _ _ _ _ _
   | exact ih2 _ _ _ _ _ _ _ _ _ _ _ _ _ _ _ _ _ _ _ _ _ _ _ _
   | exact ih3 _ _ _ _ _ _ _ _ _ _ _ _ _ _ _ _ _ _ _ _ _ _ _ _ _
   | exact ih4 _ _ _ _ _ _ _ _ _ _ _ _ _ _ _ _ _ _ _ _ _ _
   | exact ih5 _ _ _ _ _ _ _ _ _ _ _ _ _ _ _ _ _ _ _ _ _ _
   | exact LeO.none _
   | refine LeO.ite ?_ ?_
   | refine LeO.bind ?_ (fun _ => ?_)
  ·intro y0 y1 y2 y3 y4 y5 y6 y7 y8 y9 y10 y11 y12 y13 y14 y15 y16 y17 y18 y19 y20 y21 y22 y23 y24
   unfold compositorref14_Check.j3
   repeat' first
   | (with_reducible exact ih0 _ _ _ _ _ _ _ _ _ _ _ _ _ _ _ _ _ _ _ _ _ _)
   | (with_reducible exact ih1 _ _ _ _ _ _ _ _ _ _ _ _ _ _ _ _ _ _ _ _ _ _ _)
   | (with_reducible exact ih2 _ _ _ _ _ _ _ _ _ _ _ _ _ _ _ _ _ _ _ _ _ _ _ _)
   | (with_reducible exact ih3 _ _ _ _ _ _ _ _ _ _ _ _ _ _ _ _ _ _ _ _ _ _ _ _ _)
   | (with_reducible exact ih4 _ _ _ _ _ _ _ _ _ _ _ _ _ _ _ _ _ _ _ _ _ _)
   | (with_reducible exact ih5 _ _ _ _ _ _ _ _ _ _ _ _ _ _ _ _ _ _ _ _ _ _)
   | (with_reducible exact LeO.refl _)
   | (with_reducible exact LeO.none _)
   | (with_reducible refine LeO.ite ?_ ?_)
   | (with_reducible refine LeO.bind ?_ (fun _ => ?_))
   | exact ih0 _ _ _ _ _ _ _ _ _ _ _ _ _ _ _ _ _ _ _ _ _ _
   | exact ih1 _ _ _ _ _ _ _ _ _ _ _ _ _ _ _ _ _ _ _ _ _ _ _
   | exact ih2 _ _ _ _ _ _ _ _ _ _ _ _ _ _ _ _ _ _ _ _ _ _ _ _
   | exact ih3 _ _ _ _ _ _ _ _ _ _ _ _ _ _ _ _ _ _ _ _ _ _ _ _ _
   | exact ih4 _ _ _ _ _ _ _ _ _ _ _ _ _ _ _ _ _ _ _ _ _ _
   | exact ih5 _ _ _ _ _ _ _ _ _ _ _ _ _ _ _ _ _ _ _ _ _ _
   | exact LeO.none _
   | refine LeO.ite ?_ ?_
   | refine LeO.bind ?_ (fun _ => ?_)
  ·intro y0 y1 y2 y3 y4 y5 y6 y7 y8 y9 y10 y11 y12 y13 y14 y15 y16 y17 y18 y19 y20 y21
   unfold compositorref14_Check.j4
   repeat' first
   | (with_reducible exact ih0 _ _ _ _ _ _ _ _ _ _ _ _ _ _ _ _ _ _ _ _ _ _)
   | (with_reducible exact ih1 _ _ _ _ _ _ _ _ _ _ _ _ _ _ _ _ _ _ _ _ _ _ _)
   | (with_reducible exact ih2 _ _ _ _ _ _ _ _ _ _ _ _ _ _ _ _ _ _ _ _ _ _ _ _)
   | (with_reducible exact ih3 _ _ _ _ _ _ _ _ _ _ _ _ _ _ _ _ _ _ _ _ _ _ _ _ _)
   | (with_reducible exact ih4 _ _ _ _ _ _ _ _ _ _ _ _ _ _ _ _ _ _ _ _ _ _)
   | (with_reducible exact ih5 _ _ _ _ _ _ _ _ _ _ _ _ _ _ _ _ _ _ _ _ _ _)
   | (with_reducible exact LeO.refl _)
   | (with_reducible exact LeO.none _)
   | (with_reducible refine LeO.ite ?_ ?_)
   | (with_reducible refine LeO.bind ?_ (fun _ => ?_))
   | exact ih0 _ _ _ _ _ _ _ _ _ _ _ _ _ _ _ _ _ _ _ _ _ _
   | exact ih1 _ _ _ _ _ _ _ _ _ _ _ _ _ _ _ _ _ _ _ _ _ _ _
   | exact ih2 _ _ _ _ _ _ _ _ _ _ _ _ _ _ _ _ _ _ _ _ _ _ _ _
   | exact ih3 _ _ _ _ _ _ _ _ _ _ _ _ _ _ _ _ _ _ _ _ _ _ _ _ _
   | exact ih4 _ _ _ _ _ _ _ _ _ _ _ _ _ _ _ _ _ _ _ _ _ _
   | exact ih5 _ _ _ _ _ _ _ _ _ _ _ _ _ _ _ _ _ _ _ _ _ _
   | exact LeO.none _
   | refine LeO.ite ?_ ?_
   | refine LeO.bind ?_ (fun _ => ?_)
  ·intro y0 y1 y2 y3 y4 y5 y6 y7 y8 y9 y10 y11 y12 y13 y14 y15 y16 y17 y18 y19 y20 y21
   unfold compositorref14_Check.l0
   repeat' first
   | (with_reducible exact ih0 _ _ _ _ _ _ _ _ _ _ _ _ _ _ _ _ _ _ _ _ _ _)
   | (with_reducible exact ih1 _ _ _ _ _ _ _ _ _ _ _ _ _ _ _ _ _ _ _ _ _ _ _)
   | (with_reducible exact ih2 _ _ _ _ _ _ _ _ _ _ _ _ _ _ _ _ _ _ _ _ _ _ _ _)
   | (with_reducible exact ih3 _ _ _ _ _ _ _ _ _ _ _ _ _ _ _ _ _ _ _ _ _ _ _ _ _)
   | (with_reducible exact ih4 _ _ _ _ _ _ _ _ _ _ _ _ _ _ _ _ _ _ _ _ _ _)
   | (with_reducible exact ih5 _ _ _ _ _ _ _ _ _ _ _ _ _ _ _ _ _ _ _ _ _ _)
   | (with_reducible exact LeO.refl _)
   | (with_reducible exact LeO.none _)
   | (with_reducible refine LeO.ite ?_ ?_)
   | (with_reducible refine LeO.bind ?_ (fun _ => ?_))
   | exact ih0 _ _ _ _ _ _ _ _ _ _ _ _ _ _ _ _ _ _ _ _ _ _
   | exact ih1 _ _ _ _ _ _ _ _ _ _ _ _ _ _ _ _ _ _ _ _ _ _ _
   | exact ih2 _ _ _ _ _ _ _ _ _ _ _ _ _ _ _ _ _ _ _ _ _ _ _ _
   | exact ih3 _ _ _ _ _ _ _ _ _ _ _ _ _ _ _ _ _ _ _ _ _ _ _ _ _
   | exact ih4 _ _ _ _ _ _ _ _ _ _ _ _ _ _ _ _ _ _ _ _ _ _
   | exact ih5 _ _ _ _ _ _ _ _ _ _ _ _ _ _ _ _ _ _ _ _ _ _
   | exact LeO.none _
   | refine LeO.ite ?_ ?_
   | refine LeO.bind ?_ (fun _ => ?_)
theorem compositorref14_Check.mono : ∀ a0 a1 a2 a3 a4 a5 a6 a7 a8 a9 a10 a11 a12 a13 a14 a15 a16 a17 a18 a19 a20 k, LeO (compositorref14_Check.f k a0 a1 a2 a3 a4 a5 a6 a7 a8 a9 a10 a11 a12 a13 a14 a15 a16 a17 a18 a19 a20) (compositorref14_Check.f (k + 1) a0 a1 a2 a3 a4 a5 a6 a7 a8 a9 a10 a11 a12 a13 a14 a15 a16 a17 a18 a19 a20) := by
 intro a0 a1 a2 a3 a4 a5 a6 a7 a8 a9 a10 a11 a12 a13 a14 a15 a16 a17 a18 a19 a20 k
 obtain ⟨ih0, ih1, ih2, ih3, ih4, ih5⟩ := compositorref14_Check.mono_l k
 unfold compositorref14_Check.f
 repeat' first
   | (with_reducible exact ih0 _ _ _ _ _ _ _ _ _ _ _ _ _ _ _ _ _ _ _ _ _ _)
   | (with_reducible exact ih1 _ _ _ _ _ _ _ _ _ _ _ _ _ _ _ _ _ _ _ _ _ _ _)
   | (with_reducible exact ih2 _ _ _ _ _ _ _ _ _ _ _ _ _ _ _ _ _ _ _ _ _ _ _ _)
   | (with_reducible exact ih3 _ _ _ _ _ _ _ _ _ _ _ _ _ _ _ _ _ _ _ _ _ _ _ _ _)
   | (with_reducible exact ih4 _ _ _ _ _ _ _ _ _ _ _ _ _ _ _ _ _ _ _ _ _ _)
   | (with_reducible exact ih5 _ _ _ _ _ _ _ _ _ _ _ _ _ _ _ _ _ _ _ _ _ _)
   | (with_reducible exact LeO.refl _)
   | (with_reducible exact LeO.none _)
   | (with_reducible refine LeO.ite ?_ ?_)
   | (with_reducible refine LeO.bind ?_ (fun _ => ?_))
   | exact ih0 _ _ _ _ _ _ _ _ _ _ _ _ _ _ _ _ _ _ _ _ _ _
   | exact ih1 _ _ _ _ _ _ _ _ _ _ _ _ _ _ _ _ _ _ _ _ _ _ _
   | exact ih2 _ _ _ _ _ _ _ _ _ _ _ _ _ _ _ _ _ _ _ _ _ _ _ _
   | exact ih3 _ _ _ _ _ _ _ _ _ _ _ _ _ _ _ _ _ _ _ _ _ _ _ _ _
   | exact ih4 _ _ _ _ _ _ _ _ _ _ _ _ _ _ _ _ _ _ _ _ _ _
   | exact ih5 _ _ _ _ _ _ _ _ _ _ _ _ _ _ _ _ _ _ _ _ _ _
   | exact LeO.none _
   | refine LeO.ite ?_ ?_
   | refine LeO.bind ?_ (fun _ => ?_)
set_option maxHeartbeats 8000000 in
set_option maxRecDepth 100000 in
theorem compositorref14_Check.calls (k : Nat) (a0_0 : Int) (a0_1 : Int) (a0_2 : Int) (a0_3 : Int) (A0_4 : Option Addr) (c0_4 : Nat) (l0_4 : List (S47)) (a0_5 : Int) (a0_6 : Int) (a0_7 : Int) (a0_8 : Int) (a0_9 : Int) (a0_10 : Int) (a0_11 : Int) (a0_12 : Int) (a0_13 : Int) (a0_14 : Int) (a0_15 : Int) (a0_16 : Int) (a0_17 : Int) (a0_18 : Int) (a0_19 : Int) (a0_20 : Int) (r : Bool) (w : World) (hr0_4 : Kd.C k47 w A0_4 l0_4.length l0_4) (hc0_4 : l0_4.length ≤ c0_4) (h : compositorref14_Check.f k a0_0 a0_1 a0_2 a0_3 l0_4 a0_5 a0_6 a0_7 a0_8 a0_9 a0_10 a0_11 a0_12 a0_13 a0_14 a0_15 a0_16 a0_17 a0_18 a0_19 a0_20 = some r) :
  Calls Try.prog 15 #[.agg #[.int .i64 a0_0, .int .i64 a0_1, .int .i64 a0_2, .int .i64 a0_3, .slice A0_4 l0_4.length c0_4, .int .i64 a0_5, .int .i64 a0_6, .int .i64 a0_7, .int .i64 a0_8, .int .i64 a0_9, .int .i64 a0_10, .int .i64 a0_11, .int .i64 a0_12, .int .i64 a0_13, .int .i64 a0_14, .int .i64 a0_15, .int .i64 a0_16, .int .i64 a0_17, .int .i64 a0_18, .int .i64 a0_19, .int .i64 a0_20]] w fun e w' => e = .returned (.bool r) ∧ Below w.heap.size w w' := by
 have hu24 := Try.underlying24
 have HR0_4 := Aside0.mk hr0_4
 have HC0_4 := Aside0.mk hc0_4
 clear hr0_4 hc0_4
 have HB := Aside0.mk (Below.refl w.heap.size w)
 have H : ((compositorref14_in.f a0_0 1 67108864).bind fun t163 => (if t163 = true then ((compositorref14_in.f a0_1 0 4194304).bind fun t164 => (if t164 = true then ((compositorref14_in.f a0_2 0 4194304).bind fun t165 => (if t165 = true then ((compositorref14_in.f a0_3 0 4194304).bind fun t166 => (if t166 = true then (compositorref14_Check.j0 k (decide ((l0_4.length : Int) ≤ 40)) a0_0 a0_1 a0_2 a0_3 l0_4 a0_5 a0_6 a0_7 a0_8 a0_9 a0_10 a0_11 a0_12 a0_13 a0_14 a0_15 a0_16 a0_17 a0_18 a0_19 a0_20) else (compositorref14_Check.j0 k false a0_0 a0_1 a0_2 a0_3 l0_4 a0_5 a0_6 a0_7 a0_8 a0_9 a0_10 a0_11 a0_12 a0_13 a0_14 a0_15 a0_16 a0_17 a0_18 a0_19 a0_20))) else (compositorref14_Check.j0 k false a0_0 a0_1 a0_2 a0_3 l0_4 a0_5 a0_6 a0_7 a0_8 a0_9 a0_10 a0_11 a0_12 a0_13 a0_14 a0_15 a0_16 a0_17 a0_18 a0_19 a0_20))) else (compositorref14_Check.j0 k false a0_0 a0_1 a0_2 a0_3 l0_4 a0_5 a0_6 a0_7 a0_8 a0_9 a0_10 a0_11 a0_12 a0_13 a0_14 a0_15 a0_16 a0_17 a0_18 a0_19 a0_20))) else (compositorref14_Check.j0 k false a0_0 a0_1 a0_2 a0_3 l0_4 a0_5 a0_6 a0_7 a0_8 a0_9 a0_10 a0_11 a0_12 a0_13 a0_14 a0_15 a0_16 a0_17 a0_18 a0_19 a0_20))) = some r := h
 clear h
 have HC2 := Aside0.mk H
 clear H
 go_enter Try.func15, Try.ntmps15
 go_upto_region 1 with (first | ((with_reducible refine gate_load (T := 24) rfl ?_); refine load_row_event (by first | rfl | (go_simp; done)) 24 _ rfl gb162 rfl 24 _ (0, 0) _ (by (with_reducible repeat (first | refine blk_drewN ?_ _ | refine blk_drew ?_ | refine blk_alloc ?_ _)); first | with_reducible exact BK162.out) hu24 rfl (by kernel_rfl) ?_) | ((with_reducible refine gate_store (t := 24) rfl ?_); refine store_row_event (base := w.heap.size) rfl rfl 24 _ _ rfl (g := gb162) (by rfl) (by rfl) (by (with_reducible repeat (first | refine blk_drewN ?_ _ | refine blk_drew ?_ | refine blk_alloc ?_ _)); exact BK162.out) (by kernel_rfl) (by rfl) (by rfl) GE162.out ?_; intro ws_ hs_ hk_ hb_; have n0_ := Aside0.mk (Below.trans (by repeat (first | (with_reducible first | exact HB.out | apply below_alloc | apply pw_below_drewN | apply below_drew1) | exact HB.out)) hb_); clear HB; have HB := n0_; clear n0_; clear BK162; have BK162 := Aside0.mk hs_; clear hs_; have hxs_ := blk_cell BK162.out; have hys_ := blk_frozen BK162.out; clear hk_ hb_) | ((with_reducible refine gate_dst (N := 1) rfl ?_); (try (refine gate_guard (by rfl) ?_; dsimp only)); refine box_event ?hg (N := 1) ?hd (cs := #[.int .i64 a0_0, .int .i64 a0_1, .int .i64 a0_2, .int .i64 a0_3, .slice A0_4 l0_4.length c0_4, .int .i64 a0_5, .int .i64 a0_6, .int .i64 a0_7, .int .i64 a0_8, .int .i64 a0_9, .int .i64 a0_10, .int .i64 a0_11, .int .i64 a0_12, .int .i64 a0_13, .int .i64 a0_14, .int .i64 a0_15, .int .i64 a0_16, .int .i64 a0_17, .int .i64 a0_18, .int .i64 a0_19, .int .i64 a0_20]) (t := 24) ?hr ?_; (case hd => rfl); (case hg => rfl); (case hr => first | (go_simp; done) | (go_simp; rfl)); intro gb162 hg w3 hbox hb; have n0_ := Aside0.mk (below_step (by repeat (first | (with_reducible first | exact HB.out | apply below_alloc | apply pw_below_drewN | apply below_drew1) | exact HB.out)) hb); have n1_ := Aside0.mk (hbox); have n2_ := Aside0.mk ((by rw [hg]; exact (below_size (by repeat (first | (with_reducible first | exact HB.out | apply below_alloc | apply pw_below_drewN | apply below_drew1) | exact HB.out))) : w.heap.size ≤ gb162)); have n3_ := Aside0.mk ((by rw [hg]; exact (below_size (by repeat (first | (with_reducible first | exact HB.out | apply below_alloc | apply pw_below_drewN | apply below_drew1) | exact HB.out))) : w.heap.size ≤ gb162)); clear HB; have HB := n0_; have BK162 := n1_; have GW162 := n2_; have GE162 := n3_; clear n0_ n1_ n2_ n3_; clear hb hbox hg))
 (try simp only [Act.put, List.setIfInBounds_toArray, List.set_cons_zero, List.set_cons_succ])
 go_cut [3] (fun v3 wc => ∃ (kq : Nat) (x3_1 : Bool), v3 = .bool x3_1 ∧ Aside0 (compositorref14_Check.j0 kq x3_1 a0_0 a0_1 a0_2 a0_3 l0_4 a0_5 a0_6 a0_7 a0_8 a0_9 a0_10 a0_11 a0_12 a0_13 a0_14 a0_15 a0_16 a0_17 a0_18 a0_19 a0_20 = some r) ∧ Aside0 (kq ≤ k) ∧ Aside0 (wc.heap[gb162]? = some (.cells #[.int .i64 a0_0, .int .i64 a0_1, .int .i64 a0_2, .int .i64 a0_3, (.slice A0_4 l0_4.length c0_4), .int .i64 a0_5, .int .i64 a0_6, .int .i64 a0_7, .int .i64 a0_8, .int .i64 a0_9, .int .i64 a0_10, .int .i64 a0_11, .int .i64 a0_12, .int .i64 a0_13, .int .i64 a0_14, .int .i64 a0_15, .int .i64 a0_16, .int .i64 a0_17, .int .i64 a0_18, .int .i64 a0_19, .int .i64 a0_20] 24 (0, 0))) ∧ Aside0 (Below w.heap.size w wc))
 case first => as_aux_lemma =>
  have H := HC2.out
  clear HC2
  replace H := Option.bind_eq_some_iff.mp H
  obtain ⟨t163, A40, H⟩ := H
  replace H : (if t163 = true then ((compositorref14_in.f a0_1 0 4194304).bind fun t164 => (if t164 = true then ((compositorref14_in.f a0_2 0 4194304).bind fun t165 => (if t165 = true then ((compositorref14_in.f a0_3 0 4194304).bind fun t166 => (if t166 = true then (compositorref14_Check.j0 k (decide ((l0_4.length : Int) ≤ 40)) a0_0 a0_1 a0_2 a0_3 l0_4 a0_5 a0_6 a0_7 a0_8 a0_9 a0_10 a0_11 a0_12 a0_13 a0_14 a0_15 a0_16 a0_17 a0_18 a0_19 a0_20) else (compositorref14_Check.j0 k false a0_0 a0_1 a0_2 a0_3 l0_4 a0_5 a0_6 a0_7 a0_8 a0_9 a0_10 a0_11 a0_12 a0_13 a0_14 a0_15 a0_16 a0_17 a0_18 a0_19 a0_20))) else (compositorref14_Check.j0 k false a0_0 a0_1 a0_2 a0_3 l0_4 a0_5 a0_6 a0_7 a0_8 a0_9 a0_10 a0_11 a0_12 a0_13 a0_14 a0_15 a0_16 a0_17 a0_18 a0_19 a0_20))) else (compositorref14_Check.j0 k false a0_0 a0_1 a0_2 a0_3 l0_4 a0_5 a0_6 a0_7 a0_8 a0_9 a0_10 a0_11 a0_12 a0_13 a0_14 a0_15 a0_16 a0_17 a0_18 a0_19 a0_20))) else (compositorref14_Check.j0 k false a0_0 a0_1 a0_2 a0_3 l0_4 a0_5 a0_6 a0_7 a0_8 a0_9 a0_10 a0_11 a0_12 a0_13 a0_14 a0_15 a0_16 a0_17 a0_18 a0_19 a0_20)) = some r := H
  have A4 := Aside0.mk A40
  clear A40
  by_cases c5 : t163 = true
  ·subst c5
   have H1 : ((compositorref14_in.f a0_1 0 4194304).bind fun t164 => (if t164 = true then ((compositorref14_in.f a0_2 0 4194304).bind fun t165 => (if t165 = true then ((compositorref14_in.f a0_3 0 4194304).bind fun t166 => (if t166 = true then (compositorref14_Check.j0 k (decide ((l0_4.length : Int) ≤ 40)) a0_0 a0_1 a0_2 a0_3 l0_4 a0_5 a0_6 a0_7 a0_8 a0_9 a0_10 a0_11 a0_12 a0_13 a0_14 a0_15 a0_16 a0_17 a0_18 a0_19 a0_20) else (compositorref14_Check.j0 k false a0_0 a0_1 a0_2 a0_3 l0_4 a0_5 a0_6 a0_7 a0_8 a0_9 a0_10 a0_11 a0_12 a0_13 a0_14 a0_15 a0_16 a0_17 a0_18 a0_19 a0_20))) else (compositorref14_Check.j0 k false a0_0 a0_1 a0_2 a0_3 l0_4 a0_5 a0_6 a0_7 a0_8 a0_9 a0_10 a0_11 a0_12 a0_13 a0_14 a0_15 a0_16 a0_17 a0_18 a0_19 a0_20))) else (compositorref14_Check.j0 k false a0_0 a0_1 a0_2 a0_3 l0_4 a0_5 a0_6 a0_7 a0_8 a0_9 a0_10 a0_11 a0_12 a0_13 a0_14 a0_15 a0_16 a0_17 a0_18 a0_19 a0_20))) = some r := by rw [if_pos rfl] at H; exact H
   clear H
   have H := H1
   clear H1
   replace H := Option.bind_eq_some_iff.mp H
   obtain ⟨t164, A60, H⟩ := H
   replace H : (if t164 = true then ((compositorref14_in.f a0_2 0 4194304).bind fun t165 => (if t165 = true then ((compositorref14_in.f a0_3 0 4194304).bind fun t166 => (if t166 = true then (compositorref14_Check.j0 k (decide ((l0_4.length : Int) ≤ 40)) a0_0 a0_1 a0_2 a0_3 l0_4 a0_5 a0_6 a0_7 a0_8 a0_9 a0_10 a0_11 a0_12 a0_13 a0_14 a0_15 a0_16 a0_17 a0_18 a0_19 a0_20) else (compositorref14_Check.j0 k false a0_0 a0_1 a0_2 a0_3 l0_4 a0_5 a0_6 a0_7 a0_8 a0_9 a0_10 a0_11 a0_12 a0_13 a0_14 a0_15 a0_16 a0_17 a0_18 a0_19 a0_20))) else (compositorref14_Check.j0 k false a0_0 a0_1 a0_2 a0_3 l0_4 a0_5 a0_6 a0_7 a0_8 a0_9 a0_10 a0_11 a0_12 a0_13 a0_14 a0_15 a0_16 a0_17 a0_18 a0_19 a0_20))) else (compositorref14_Check.j0 k false a0_0 a0_1 a0_2 a0_3 l0_4 a0_5 a0_6 a0_7 a0_8 a0_9 a0_10 a0_11 a0_12 a0_13 a0_14 a0_15 a0_16 a0_17 a0_18 a0_19 a0_20)) = some r := H
   have A6 := Aside0.mk A60
   clear A60
   by_cases c7 : t164 = true
   ·subst c7
    have H1 : ((compositorref14_in.f a0_2 0 4194304).bind fun t165 => (if t165 = true then ((compositorref14_in.f a0_3 0 4194304).bind fun t166 => (if t166 = true then (compositorref14_Check.j0 k (decide ((l0_4.length : Int) ≤ 40)) a0_0 a0_1 a0_2 a0_3 l0_4 a0_5 a0_6 a0_7 a0_8 a0_9 a0_10 a0_11 a0_12 a0_13 a0_14 a0_15 a0_16 a0_17 a0_18 a0_19 a0_20) else (compositorref14_Check.j0 k false a0_0 a0_1 a0_2 a0_3 l0_4 a0_5 a0_6 a0_7 a0_8 a0_9 a0_10 a0_11 a0_12 a0_13 a0_14 a0_15 a0_16 a0_17 a0_18 a0_19 a0_20))) else (compositorref14_Check.j0 k false a0_0 a0_1 a0_2 a0_3 l0_4 a0_5 a0_6 a0_7 a0_8 a0_9 a0_10 a0_11 a0_12 a0_13 a0_14 a0_15 a0_16 a0_17 a0_18 a0_19 a0_20))) = some r := by rw [if_pos rfl] at H; exact H
    clear H
    have H := H1
    clear H1
    replace H := Option.bind_eq_some_iff.mp H
    obtain ⟨t165, A80, H⟩ := H
    replace H : (if t165 = true then ((compositorref14_in.f a0_3 0 4194304).bind fun t166 => (if t166 = true then (compositorref14_Check.j0 k (decide ((l0_4.length : Int) ≤ 40)) a0_0 a0_1 a0_2 a0_3 l0_4 a0_5 a0_6 a0_7 a0_8 a0_9 a0_10 a0_11 a0_12 a0_13 a0_14 a0_15 a0_16 a0_17 a0_18 a0_19 a0_20) else (compositorref14_Check.j0 k false a0_0 a0_1 a0_2 a0_3 l0_4 a0_5 a0_6 a0_7 a0_8 a0_9 a0_10 a0_11 a0_12 a0_13 a0_14 a0_15 a0_16 a0_17 a0_18 a0_19 a0_20))) else (compositorref14_Check.j0 k false a0_0 a0_1 a0_2 a0_3 l0_4 a0_5 a0_6 a0_7 a0_8 a0_9 a0_10 a0_11 a0_12 a0_13 a0_14 a0_15 a0_16 a0_17 a0_18 a0_19 a0_20)) = some r := H
    have A8 := Aside0.mk A80
    clear A80
    by_cases c9 : t165 = true
    ·subst c9
     have H1 : ((compositorref14_in.f a0_3 0 4194304).bind fun t166 => (if t166 = true then (compositorref14_Check.j0 k (decide ((l0_4.length : Int) ≤ 40)) a0_0 a0_1 a0_2 a0_3 l0_4 a0_5 a0_6 a0_7 a0_8 a0_9 a0_10 a0_11 a0_12 a0_13 a0_14 a0_15 a0_16 a0_17 a0_18 a0_19 a0_20) else (compositorref14_Check.j0 k false a0_0 a0_1 a0_2 a0_3 l0_4 a0_5 a0_6 a0_7 a0_8 a0_9 a0_10 a0_11 a0_12 a0_13 a0_14 a0_15 a0_16 a0_17 a0_18 a0_19 a0_20))) = some r := by rw [if_pos rfl] at H; exact H
     clear H
     have H := H1
     clear H1
     replace H := Option.bind_eq_some_iff.mp H
     obtain ⟨t166, A100, H⟩ := H
     replace H : (if t166 = true then (compositorref14_Check.j0 k (decide ((l0_4.length : Int) ≤ 40)) a0_0 a0_1 a0_2 a0_3 l0_4 a0_5 a0_6 a0_7 a0_8 a0_9 a0_10 a0_11 a0_12 a0_13 a0_14 a0_15 a0_16 a0_17 a0_18 a0_19 a0_20) else (compositorref14_Check.j0 k false a0_0 a0_1 a0_2 a0_3 l0_4 a0_5 a0_6 a0_7 a0_8 a0_9 a0_10 a0_11 a0_12 a0_13 a0_14 a0_15 a0_16 a0_17 a0_18 a0_19 a0_20)) = some r := H
     have A10 := Aside0.mk A100
     clear A100
     by_cases c11 : t166 = true
     ·subst c11
      have H1 : (compositorref14_Check.j0 k (decide ((l0_4.length : Int) ≤ 40)) a0_0 a0_1 a0_2 a0_3 l0_4 a0_5 a0_6 a0_7 a0_8 a0_9 a0_10 a0_11 a0_12 a0_13 a0_14 a0_15 a0_16 a0_17 a0_18 a0_19 a0_20) = some r := by rw [if_pos rfl] at H; exact H
      clear H
      have H := H1
      clear H1
      have H' := Aside0.mk H
      clear H
      have hcz12_0 := blk_cell BK162.out
      have hfz12_0 := blk_frozen BK162.out
      have tk_ : True := trivial
      go_wp2_with (first | ((with_reducible refine gate_load (T := 24) rfl ?_); refine load_row_event (by first | rfl | (go_simp; done)) 24 _ rfl gb162 rfl 24 _ (0, 0) _ (by (with_reducible repeat (first | refine blk_drewN ?_ _ | refine blk_drew ?_ | refine blk_alloc ?_ _)); first | with_reducible exact BK162.out) hu24 rfl (by kernel_rfl) ?_) | ((with_reducible refine gate_store (t := 24) rfl ?_); refine store_row_event (base := w.heap.size) rfl rfl 24 _ _ rfl (g := gb162) (by rfl) (by rfl) (by (with_reducible repeat (first | refine blk_drewN ?_ _ | refine blk_drew ?_ | refine blk_alloc ?_ _)); exact BK162.out) (by kernel_rfl) (by rfl) (by rfl) GE162.out ?_; intro ws_ hs_ hk_ hb_; have n0_ := Aside0.mk (Below.trans (by repeat (first | (with_reducible first | exact HB.out | apply below_alloc | apply pw_below_drewN | apply below_drew1) | exact HB.out)) hb_); clear HB; have HB := n0_; clear n0_; clear BK162; have BK162 := Aside0.mk hs_; clear hs_; have hxs_ := blk_cell BK162.out; have hys_ := blk_frozen BK162.out; clear hk_ hb_) | (go_at_call 26; clear tk_; (with_reducible refine (compositorref14_in.calls a0_0 1 67108864 true _ A4.out).mono ?_); rintro e w' ⟨rfl, ⟨nd, rfl⟩⟩))
      as_aux_lemma =>
      have tk_ : True := trivial
      go_wp2_with (first | ((with_reducible refine gate_load (T := 24) rfl ?_); refine load_row_event (by first | rfl | (go_simp; done)) 24 _ rfl gb162 rfl 24 _ (0, 0) _ (by (with_reducible repeat (first | refine blk_drewN ?_ _ | refine blk_drew ?_ | refine blk_alloc ?_ _)); first | with_reducible exact BK162.out) hu24 rfl (by kernel_rfl) ?_) | ((with_reducible refine gate_store (t := 24) rfl ?_); refine store_row_event (base := w.heap.size) rfl rfl 24 _ _ rfl (g := gb162) (by rfl) (by rfl) (by (with_reducible repeat (first | refine blk_drewN ?_ _ | refine blk_drew ?_ | refine blk_alloc ?_ _)); exact BK162.out) (by kernel_rfl) (by rfl) (by rfl) GE162.out ?_; intro ws_ hs_ hk_ hb_; have n0_ := Aside0.mk (Below.trans (by repeat (first | (with_reducible first | exact HB.out | apply below_alloc | apply pw_below_drewN | apply below_drew1) | exact HB.out)) hb_); clear HB; have HB := n0_; clear n0_; clear BK162; have BK162 := Aside0.mk hs_; clear hs_; have hxs_ := blk_cell BK162.out; have hys_ := blk_frozen BK162.out; clear hk_ hb_) | (go_at_call 26; clear tk_; (with_reducible refine (compositorref14_in.calls a0_1 0 4194304 true _ A6.out).mono ?_); rintro e w' ⟨rfl, ⟨nd, rfl⟩⟩))
      as_aux_lemma =>
      have tk_ : True := trivial
      go_wp2_with (first | ((with_reducible refine gate_load (T := 24) rfl ?_); refine load_row_event (by first | rfl | (go_simp; done)) 24 _ rfl gb162 rfl 24 _ (0, 0) _ (by (with_reducible repeat (first | refine blk_drewN ?_ _ | refine blk_drew ?_ | refine blk_alloc ?_ _)); first | with_reducible exact BK162.out) hu24 rfl (by kernel_rfl) ?_) | ((with_reducible refine gate_store (t := 24) rfl ?_); refine store_row_event (base := w.heap.size) rfl rfl 24 _ _ rfl (g := gb162) (by rfl) (by rfl) (by (with_reducible repeat (first | refine blk_drewN ?_ _ | refine blk_drew ?_ | refine blk_alloc ?_ _)); exact BK162.out) (by kernel_rfl) (by rfl) (by rfl) GE162.out ?_; intro ws_ hs_ hk_ hb_; have n0_ := Aside0.mk (Below.trans (by repeat (first | (with_reducible first | exact HB.out | apply below_alloc | apply pw_below_drewN | apply below_drew1) | exact HB.out)) hb_); clear HB; have HB := n0_; clear n0_; clear BK162; have BK162 := Aside0.mk hs_; clear hs_; have hxs_ := blk_cell BK162.out; have hys_ := blk_frozen BK162.out; clear hk_ hb_) | (go_at_call 26; clear tk_; (with_reducible refine (compositorref14_in.calls a0_2 0 4194304 true _ A8.out).mono ?_); rintro e w' ⟨rfl, ⟨nd, rfl⟩⟩))
      as_aux_lemma =>
      have tk_ : True := trivial
      go_wp2_with (first | ((with_reducible refine gate_load (T := 24) rfl ?_); refine load_row_event (by first | rfl | (go_simp; done)) 24 _ rfl gb162 rfl 24 _ (0, 0) _ (by (with_reducible repeat (first | refine blk_drewN ?_ _ | refine blk_drew ?_ | refine blk_alloc ?_ _)); first | with_reducible exact BK162.out) hu24 rfl (by kernel_rfl) ?_) | ((with_reducible refine gate_store (t := 24) rfl ?_); refine store_row_event (base := w.heap.size) rfl rfl 24 _ _ rfl (g := gb162) (by rfl) (by rfl) (by (with_reducible repeat (first | refine blk_drewN ?_ _ | refine blk_drew ?_ | refine blk_alloc ?_ _)); exact BK162.out) (by kernel_rfl) (by rfl) (by rfl) GE162.out ?_; intro ws_ hs_ hk_ hb_; have n0_ := Aside0.mk (Below.trans (by repeat (first | (with_reducible first | exact HB.out | apply below_alloc | apply pw_below_drewN | apply below_drew1) | exact HB.out)) hb_); clear HB; have HB := n0_; clear n0_; clear BK162; have BK162 := Aside0.mk hs_; clear hs_; have hxs_ := blk_cell BK162.out; have hys_ := blk_frozen BK162.out; clear hk_ hb_) | (go_at_call 26; clear tk_; (with_reducible refine (compositorref14_in.calls a0_3 0 4194304 true _ A10.out).mono ?_); rintro e w' ⟨rfl, ⟨nd, rfl⟩⟩))
      go_meet
      case rel => exact ⟨_, (decide ((l0_4.length : Int) ≤ 40)), (by first | rfl | (simp; done) | (simp [*]; done)), H', ⟨by first | omega | exact Nat.le_refl _⟩, ⟨by (with_reducible repeat (first | refine blk_drewN ?_ _ | refine blk_drew ?_ | refine blk_alloc ?_ _)); exact BK162.out⟩, ⟨by repeat (first | (with_reducible first | exact HB.out | apply below_alloc | apply pw_below_drewN | apply below_drew1 | refine below_set ?_ GE162.out) | exact HB.out)⟩⟩
     ·replace c11 := Bool.eq_false_iff.mpr c11
      subst c11
      have H1 : (compositorref14_Check.j0 k false a0_0 a0_1 a0_2 a0_3 l0_4 a0_5 a0_6 a0_7 a0_8 a0_9 a0_10 a0_11 a0_12 a0_13 a0_14 a0_15 a0_16 a0_17 a0_18 a0_19 a0_20) = some r := by rw [if_neg (show ¬ (false = true) by decide)] at H; exact H
      clear H
      have H := H1
      clear H1
      have H' := Aside0.mk H
      clear H
      have hcz13_0 := blk_cell BK162.out
      have hfz13_0 := blk_frozen BK162.out
      have tk_ : True := trivial
      go_wp2_with (first | ((with_reducible refine gate_load (T := 24) rfl ?_); refine load_row_event (by first | rfl | (go_simp; done)) 24 _ rfl gb162 rfl 24 _ (0, 0) _ (by (with_reducible repeat (first | refine blk_drewN ?_ _ | refine blk_drew ?_ | refine blk_alloc ?_ _)); first | with_reducible exact BK162.out) hu24 rfl (by kernel_rfl) ?_) | ((with_reducible refine gate_store (t := 24) rfl ?_); refine store_row_event (base := w.heap.size) rfl rfl 24 _ _ rfl (g := gb162) (by rfl) (by rfl) (by (with_reducible repeat (first | refine blk_drewN ?_ _ | refine blk_drew ?_ | refine blk_alloc ?_ _)); exact BK162.out) (by kernel_rfl) (by rfl) (by rfl) GE162.out ?_; intro ws_ hs_ hk_ hb_; have n0_ := Aside0.mk (Below.trans (by repeat (first | (with_reducible first | exact HB.out | apply below_alloc | apply pw_below_drewN | apply below_drew1) | exact HB.out)) hb_); clear HB; have HB := n0_; clear n0_; clear BK162; have BK162 := Aside0.mk hs_; clear hs_; have hxs_ := blk_cell BK162.out; have hys_ := blk_frozen BK162.out; clear hk_ hb_) | (go_at_call 26; clear tk_; (with_reducible refine (compositorref14_in.calls a0_0 1 67108864 true _ A4.out).mono ?_); rintro e w' ⟨rfl, ⟨nd, rfl⟩⟩))
      as_aux_lemma =>
      have tk_ : True := trivial
      go_wp2_with (first | ((with_reducible refine gate_load (T := 24) rfl ?_); refine load_row_event (by first | rfl | (go_simp; done)) 24 _ rfl gb162 rfl 24 _ (0, 0) _ (by (with_reducible repeat (first | refine blk_drewN ?_ _ | refine blk_drew ?_ | refine blk_alloc ?_ _)); first | with_reducible exact BK162.out) hu24 rfl (by kernel_rfl) ?_) | ((with_reducible refine gate_store (t := 24) rfl ?_); refine store_row_event (base := w.heap.size) rfl rfl 24 _ _ rfl (g := gb162) (by rfl) (by rfl) (by (with_reducible repeat (first | refine blk_drewN ?_ _ | refine blk_drew ?_ | refine blk_alloc ?_ _)); exact BK162.out) (by kernel_rfl) (by rfl) (by rfl) GE162.out ?_; intro ws_ hs_ hk_ hb_; have n0_ := Aside0.mk (Below.trans (by repeat (first | (with_reducible first | exact HB.out | apply below_alloc | apply pw_below_drewN | apply below_drew1) | exact HB.out)) hb_); clear HB; have HB := n0_; clear n0_; clear BK162; have BK162 := Aside0.mk hs_; clear hs_; have hxs_ := blk_cell BK162.out; have hys_ := blk_frozen BK162.out; clear hk_ hb_) | (go_at_call 26; clear tk_; (with_reducible refine (compositorref14_in.calls a0_1 0 4194304 true _ A6.out).mono ?_); rintro e w' ⟨rfl, ⟨nd, rfl⟩⟩))
      as_aux_lemma =>
      have tk_ : True := trivial
      go_wp2_with (first | ((with_reducible refine gate_load (T := 24) rfl ?_); refine load_row_event (by first | rfl | (go_simp; done)) 24 _ rfl gb162 rfl 24 _ (0, 0) _ (by (with_reducible repeat (first | refine blk_drewN ?_ _ | refine blk_drew ?_ | refine blk_alloc ?_ _)); first | with_reducible exact BK162.out) hu24 rfl (by kernel_rfl) ?_) | ((with_reducible refine gate_store (t := 24) rfl ?_); refine store_row_event (base := w.heap.size) rfl rfl 24 _ _ rfl (g := gb162) (by rfl) (by rfl) (by (with_reducible repeat (first | refine blk_drewN ?_ _ | refine blk_drew ?_ | refine blk_alloc ?_ _)); exact BK162.out) (by kernel_rfl) (by rfl) (by rfl) GE162.out ?_; intro ws_ hs_ hk_ hb_; have n0_ := Aside0.mk (Below.trans (by repeat (first | (with_reducible first | exact HB.out | apply below_alloc | apply pw_below_drewN | apply below_drew1) | exact HB.out)) hb_); clear HB; have HB := n0_; clear n0_; clear BK162; have BK162 := Aside0.mk hs_; clear hs_; have hxs_ := blk_cell BK162.out; have hys_ := blk_frozen BK162.out; clear hk_ hb_) | (go_at_call 26; clear tk_; (with_reducible refine (compositorref14_in.calls a0_2 0 4194304 true _ A8.out).mono ?_); rintro e w' ⟨rfl, ⟨nd, rfl⟩⟩))
      as_aux_lemma =>
      have tk_ : True := trivial
      go_wp2_with (first | ((with_reducible refine gate_load (T := 24) rfl ?_); refine load_row_event (by first | rfl | (go_simp; done)) 24 _ rfl gb162 rfl 24 _ (0, 0) _ (by (with_reducible repeat (first | refine blk_drewN ?_ _ | refine blk_drew ?_ | refine blk_alloc ?_ _)); first | with_reducible exact BK162.out) hu24 rfl (by kernel_rfl) ?_) | ((with_reducible refine gate_store (t := 24) rfl ?_); refine store_row_event (base := w.heap.size) rfl rfl 24 _ _ rfl (g := gb162) (by rfl) (by rfl) (by (with_reducible repeat (first | refine blk_drewN ?_ _ | refine blk_drew ?_ | refine blk_alloc ?_ _)); exact BK162.out) (by kernel_rfl) (by rfl) (by rfl) GE162.out ?_; intro ws_ hs_ hk_ hb_; have n0_ := Aside0.mk (Below.trans (by repeat (first | (with_reducible first | exact HB.out | apply below_alloc | apply pw_below_drewN | apply below_drew1) | exact HB.out)) hb_); clear HB; have HB := n0_; clear n0_; clear BK162; have BK162 := Aside0.mk hs_; clear hs_; have hxs_ := blk_cell BK162.out; have hys_ := blk_frozen BK162.out; clear hk_ hb_) | (go_at_call 26; clear tk_; (with_reducible refine (compositorref14_in.calls a0_3 0 4194304 false _ A10.out).mono ?_); rintro e w' ⟨rfl, ⟨nd, rfl⟩⟩))
      go_meet
      case rel => exact ⟨_, (false), (by first | rfl | (simp; done) | (simp [*]; done)), H', ⟨by first | omega | exact Nat.le_refl _⟩, ⟨by (with_reducible repeat (first | refine blk_drewN ?_ _ | refine blk_drew ?_ | refine blk_alloc ?_ _)); exact BK162.out⟩, ⟨by repeat (first | (with_reducible first | exact HB.out | apply below_alloc | apply pw_below_drewN | apply below_drew1 | refine below_set ?_ GE162.out) | exact HB.out)⟩⟩
    ·replace c9 := Bool.eq_false_iff.mpr c9
     subst c9
     have H1 : (compositorref14_Check.j0 k false a0_0 a0_1 a0_2 a0_3 l0_4 a0_5 a0_6 a0_7 a0_8 a0_9 a0_10 a0_11 a0_12 a0_13 a0_14 a0_15 a0_16 a0_17 a0_18 a0_19 a0_20) = some r := by rw [if_neg (show ¬ (false = true) by decide)] at H; exact H
     clear H
     have H := H1
     clear H1
     have H' := Aside0.mk H
     clear H
     have hcz14_0 := blk_cell BK162.out
     have hfz14_0 := blk_frozen BK162.out
     have tk_ : True := trivial
     go_wp2_with (first | ((with_reducible refine gate_load (T := 24) rfl ?_); refine load_row_event (by first | rfl | (go_simp; done)) 24 _ rfl gb162 rfl 24 _ (0, 0) _ (by (with_reducible repeat (first | refine blk_drewN ?_ _ | refine blk_drew ?_ | refine blk_alloc ?_ _)); first | with_reducible exact BK162.out) hu24 rfl (by kernel_rfl) ?_) | ((with_reducible refine gate_store (t := 24) rfl ?_); refine store_row_event (base := w.heap.size) rfl rfl 24 _ _ rfl (g := gb162) (by rfl) (by rfl) (by (with_reducible repeat (first | refine blk_drewN ?_ _ | refine blk_drew ?_ | refine blk_alloc ?_ _)); exact BK162.out) (by kernel_rfl) (by rfl) (by rfl) GE162.out ?_; intro ws_ hs_ hk_ hb_; have n0_ := Aside0.mk (Below.trans (by repeat (first | (with_reducible first | exact HB.out | apply below_alloc | apply pw_below_drewN | apply below_drew1) | exact HB.out)) hb_); clear HB; have HB := n0_; clear n0_; clear BK162; have BK162 := Aside0.mk hs_; clear hs_; have hxs_ := blk_cell BK162.out; have hys_ := blk_frozen BK162.out; clear hk_ hb_) | (go_at_call 26; clear tk_; (with_reducible refine (compositorref14_in.calls a0_0 1 67108864 true _ A4.out).mono ?_); rintro e w' ⟨rfl, ⟨nd, rfl⟩⟩))
     as_aux_lemma =>
     have tk_ : True := trivial
     go_wp2_with (first | ((with_reducible refine gate_load (T := 24) rfl ?_); refine load_row_event (by first | rfl | (go_simp; done)) 24 _ rfl gb162 rfl 24 _ (0, 0) _ (by (with_reducible repeat (first | refine blk_drewN ?_ _ | refine blk_drew ?_ | refine blk_alloc ?_ _)); first | with_reducible exact BK162.out) hu24 rfl (by kernel_rfl) ?_) | ((with_reducible refine gate_store (t := 24) rfl ?_); refine store_row_event (base := w.heap.size) rfl rfl 24 _ _ rfl (g := gb162) (by rfl) (by rfl) (by (with_reducible repeat (first | refine blk_drewN ?_ _ | refine blk_drew ?_ | refine blk_alloc ?_ _)); exact BK162.out) (by kernel_rfl) (by rfl) (by rfl) GE162.out ?_; intro ws_ hs_ hk_ hb_; have n0_ := Aside0.mk (Below.trans (by repeat (first | (with_reducible first | exact HB.out | apply below_alloc | apply pw_below_drewN | apply below_drew1) | exact HB.out)) hb_); clear HB; have HB := n0_; clear n0_; clear BK162; have BK162 := Aside0.mk hs_; clear hs_; have hxs_ := blk_cell BK162.out; have hys_ := blk_frozen BK162.out; clear hk_ hb_) | (go_at_call 26; clear tk_; (with_reducible refine (compositorref14_in.calls a0_1 0 4194304 true _ A6.out).mono ?_); rintro e w' ⟨rfl, ⟨nd, rfl⟩⟩))
     as_aux_lemma =>
     have tk_ : True := trivial
     go_wp2_with (first | ((with_reducible refine gate_load (T := 24) rfl ?_); refine load_row_event (by first | rfl | (go_simp; done)) 24 _ rfl gb162 rfl 24 _ (0, 0) _ (by (with_reducible repeat (first | refine blk_drewN ?_ _ | refine blk_drew ?_ | refine blk_alloc ?_ _)); first | with_reducible exact BK162.out) hu24 rfl (by kernel_rfl) ?_) | ((with_reducible refine gate_store (t := 24) rfl ?_); refine store_row_event (base := w.heap.size) rfl rfl 24 _ _ rfl (g := gb162) (by rfl) (by rfl) (by (with_reducible repeat (first | refine blk_drewN ?_ _ | refine blk_drew ?_ | refine blk_alloc ?_ _)); exact BK162.out) (by kernel_rfl) (by rfl) (by rfl) GE162.out ?_; intro ws_ hs_ hk_ hb_; have n0_ := Aside0.mk (Below.trans (by repeat (first | (with_reducible first | exact HB.out | apply below_alloc | apply pw_below_drewN | apply below_drew1) | exact HB.out)) hb_); clear HB; have HB := n0_; clear n0_; clear BK162; have BK162 := Aside0.mk hs_; clear hs_; have hxs_ := blk_cell BK162.out; have hys_ := blk_frozen BK162.out; clear hk_ hb_) | (go_at_call 26; clear tk_; (with_reducible refine (compositorref14_in.calls a0_2 0 4194304 false _ A8.out).mono ?_); rintro e w' ⟨rfl, ⟨nd, rfl⟩⟩))
     go_meet
     case rel => exact ⟨_, (false), (by first | rfl | (simp; done) | (simp [*]; done)), H', ⟨by first | omega | exact Nat.le_refl _⟩, ⟨by (with_reducible repeat (first | refine blk_drewN ?_ _ | refine blk_drew ?_ | refine blk_alloc ?_ _)); exact BK162.out⟩, ⟨by repeat (first | (with_reducible first | exact HB.out | apply below_alloc | apply pw_below_drewN | apply below_drew1 | refine below_set ?_ GE162.out) | exact HB.out)⟩⟩
   ·replace c7 := Bool.eq_false_iff.mpr c7
    subst c7
    have H1 : (compositorref14_Check.j0 k false a0_0 a0_1 a0_2 a0_3 l0_4 a0_5 a0_6 a0_7 a0_8 a0_9 a0_10 a0_11 a0_12 a0_13 a0_14 a0_15 a0_16 a0_17 a0_18 a0_19 a0_20) = some r := by rw [if_neg (show ¬ (false = true) by decide)] at H; exact H
    clear H
    have H := H1
    clear H1
    have H' := Aside0.mk H
    clear H
    have hcz15_0 := blk_cell BK162.out
    have hfz15_0 := blk_frozen BK162.out
    have tk_ : True := trivial
    go_wp2_with (first | ((with_reducible refine gate_load (T := 24) rfl ?_); refine load_row_event (by first | rfl | (go_simp; done)) 24 _ rfl gb162 rfl 24 _ (0, 0) _ (by (with_reducible repeat (first | refine blk_drewN ?_ _ | refine blk_drew ?_ | refine blk_alloc ?_ _)); first | with_reducible exact BK162.out) hu24 rfl (by kernel_rfl) ?_) | ((with_reducible refine gate_store (t := 24) rfl ?_); refine store_row_event (base := w.heap.size) rfl rfl 24 _ _ rfl (g := gb162) (by rfl) (by rfl) (by (with_reducible repeat (first | refine blk_drewN ?_ _ | refine blk_drew ?_ | refine blk_alloc ?_ _)); exact BK162.out) (by kernel_rfl) (by rfl) (by rfl) GE162.out ?_; intro ws_ hs_ hk_ hb_; have n0_ := Aside0.mk (Below.trans (by repeat (first | (with_reducible first | exact HB.out | apply below_alloc | apply pw_below_drewN | apply below_drew1) | exact HB.out)) hb_); clear HB; have HB := n0_; clear n0_; clear BK162; have BK162 := Aside0.mk hs_; clear hs_; have hxs_ := blk_cell BK162.out; have hys_ := blk_frozen BK162.out; clear hk_ hb_) | (go_at_call 26; clear tk_; (with_reducible refine (compositorref14_in.calls a0_0 1 67108864 true _ A4.out).mono ?_); rintro e w' ⟨rfl, ⟨nd, rfl⟩⟩))
    as_aux_lemma =>
    have tk_ : True := trivial
    go_wp2_with (first | ((with_reducible refine gate_load (T := 24) rfl ?_); refine load_row_event (by first | rfl | (go_simp; done)) 24 _ rfl gb162 rfl 24 _ (0, 0) _ (by (with_reducible repeat (first | refine blk_drewN ?_ _ | refine blk_drew ?_ | refine blk_alloc ?_ _)); first | with_reducible exact BK162.out) hu24 rfl (by kernel_rfl) ?_) | ((with_reducible refine gate_store (t := 24) rfl ?_); refine store_row_event (base := w.heap.size) rfl rfl 24 _ _ rfl (g := gb162) (by rfl) (by rfl) (by (with_reducible repeat (first | refine blk_drewN ?_ _ | refine blk_drew ?_ | refine blk_alloc ?_ _)); exact BK162.out) (by kernel_rfl) (by rfl) (by rfl) GE162.out ?_; intro ws_ hs_ hk_ hb_; have n0_ := Aside0.mk (Below.trans (by repeat (first | (with_reducible first | exact HB.out | apply below_alloc | apply pw_below_drewN | apply below_drew1) | exact HB.out)) hb_); clear HB; have HB := n0_; clear n0_; clear BK162; have BK162 := Aside0.mk hs_; clear hs_; have hxs_ := blk_cell BK162.out; have hys_ := blk_frozen BK162.out; clear hk_ hb_) | (go_at_call 26; clear tk_; (with_reducible refine (compositorref14_in.calls a0_1 0 4194304 false _ A6.out).mono ?_); rintro e w' ⟨rfl, ⟨nd, rfl⟩⟩))
    go_meet
    case rel => exact ⟨_, (false), (by first | rfl | (simp; done) | (simp [*]; done)), H', ⟨by first | omega | exact Nat.le_refl _⟩, ⟨by (with_reducible repeat (first | refine blk_drewN ?_ _ | refine blk_drew ?_ | refine blk_alloc ?_ _)); exact BK162.out⟩, ⟨by repeat (first | (with_reducible first | exact HB.out | apply below_alloc | apply pw_below_drewN | apply below_drew1 | refine below_set ?_ GE162.out) | exact HB.out)⟩⟩
  ·replace c5 := Bool.eq_false_iff.mpr c5
   subst c5
   have H1 : (compositorref14_Check.j0 k false a0_0 a0_1 a0_2 a0_3 l0_4 a0_5 a0_6 a0_7 a0_8 a0_9 a0_10 a0_11 a0_12 a0_13 a0_14 a0_15 a0_16 a0_17 a0_18 a0_19 a0_20) = some r := by rw [if_neg (show ¬ (false = true) by decide)] at H; exact H
   clear H
   have H := H1
   clear H1
   have H' := Aside0.mk H
   clear H
   have hcz16_0 := blk_cell BK162.out
   have hfz16_0 := blk_frozen BK162.out
   go_wp2_with (first | ((with_reducible refine gate_load (T := 24) rfl ?_); refine load_row_event (by first | rfl | (go_simp; done)) 24 _ rfl gb162 rfl 24 _ (0, 0) _ (by (with_reducible repeat (first | refine blk_drewN ?_ _ | refine blk_drew ?_ | refine blk_alloc ?_ _)); first | with_reducible exact BK162.out) hu24 rfl (by kernel_rfl) ?_) | ((with_reducible refine gate_store (t := 24) rfl ?_); refine store_row_event (base := w.heap.size) rfl rfl 24 _ _ rfl (g := gb162) (by rfl) (by rfl) (by (with_reducible repeat (first | refine blk_drewN ?_ _ | refine blk_drew ?_ | refine blk_alloc ?_ _)); exact BK162.out) (by kernel_rfl) (by rfl) (by rfl) GE162.out ?_; intro ws_ hs_ hk_ hb_; have n0_ := Aside0.mk (Below.trans (by repeat (first | (with_reducible first | exact HB.out | apply below_alloc | apply pw_below_drewN | apply below_drew1) | exact HB.out)) hb_); clear HB; have HB := n0_; clear n0_; clear BK162; have BK162 := Aside0.mk hs_; clear hs_; have hxs_ := blk_cell BK162.out; have hys_ := blk_frozen BK162.out; clear hk_ hb_) | ((with_reducible refine gate_callee (f := 26) rfl ?_); refine goesL_ (some 10) rfl rfl Try.func26 (by kernel_rfl) rfl #[.int .i64 a0_0, .int .i64 1, .int .i64 67108864] rfl (by (try simp only [List.map_toArray, List.map_cons, List.map_nil]); first | done | rfl | (simp only [List.length_drop, List.length_take]; rfl)) ?_; (with_reducible refine (compositorref14_in.calls a0_0 1 67108864 false _ A4.out).mono ?_); rintro e w' ⟨rfl, ⟨nd, rfl⟩⟩; refine ⟨_, rfl, ?_⟩))
   go_meet
   case rel => exact ⟨_, (false), (by first | rfl | (simp; done) | (simp [*]; done)), H', ⟨by first | omega | exact Nat.le_refl _⟩, ⟨by (with_reducible repeat (first | refine blk_drewN ?_ _ | refine blk_drew ?_ | refine blk_alloc ?_ _)); exact BK162.out⟩, ⟨by repeat (first | (with_reducible first | exact HB.out | apply below_alloc | apply pw_below_drewN | apply below_drew1 | refine below_set ?_ GE162.out) | exact HB.out)⟩⟩
 case rest => as_aux_lemma =>
  clear HC2
  try clear c1
  try clear c2
  try clear p2
  try clear c5
  try clear c7
  try clear c9
  try clear c11
  try clear c15
  try clear hcz12_0
  try clear hcz12_1
  try clear hcz12_10
  try clear hcz12_11
  try clear hcz12_12
  try clear hcz12_13
  try clear hcz12_14
  try clear hcz12_15
  try clear hcz12_16
  try clear hcz12_17
  try clear hcz12_18
  try clear hcz12_19
  try clear hcz12_2
  try clear hcz12_20
  try clear hcz12_3
  try clear hcz12_4
  try clear hcz12_5
  try clear hcz12_6
  try clear hcz12_7
  try clear hcz12_8
  try clear hcz12_9
  try clear hcz13_0
  try clear hcz13_1
  try clear hcz13_10
  try clear hcz13_11
  try clear hcz13_12
  try clear hcz13_13
  try clear hcz13_14
  try clear hcz13_15
  try clear hcz13_16
  try clear hcz13_17
  try clear hcz13_18
  try clear hcz13_19
  try clear hcz13_2
  try clear hcz13_20
  try clear hcz13_3
  try clear hcz13_4
  try clear hcz13_5
  try clear hcz13_6
  try clear hcz13_7
  try clear hcz13_8
  try clear hcz13_9
  try clear hcz14_0
  try clear hcz14_1
  try clear hcz14_10
  try clear hcz14_11
  try clear hcz14_12
  try clear hcz14_13
  try clear hcz14_14
  try clear hcz14_15
  try clear hcz14_16
  try clear hcz14_17
  try clear hcz14_18
  try clear hcz14_19
  try clear hcz14_2
  try clear hcz14_20
  try clear hcz14_3
  try clear hcz14_4
  try clear hcz14_5
  try clear hcz14_6
  try clear hcz14_7
  try clear hcz14_8
  try clear hcz14_9
  try clear hcz15_0
  try clear hcz15_1
  try clear hcz15_10
  try clear hcz15_11
  try clear hcz15_12
  try clear hcz15_13
  try clear hcz15_14
  try clear hcz15_15
  try clear hcz15_16
  try clear hcz15_17
  try clear hcz15_18
  try clear hcz15_19
  try clear hcz15_2
  try clear hcz15_20
  try clear hcz15_3
  try clear hcz15_4
  try clear hcz15_5
  try clear hcz15_6
  try clear hcz15_7
  try clear hcz15_8
  try clear hcz15_9
  try clear hcz16_0
  try clear hcz16_1
  try clear hcz16_10
  try clear hcz16_11
  try clear hcz16_12
  try clear hcz16_13
  try clear hcz16_14
  try clear hcz16_15
  try clear hcz16_16
  try clear hcz16_17
  try clear hcz16_18
  try clear hcz16_19
  try clear hcz16_2
  try clear hcz16_20
  try clear hcz16_3
  try clear hcz16_4
  try clear hcz16_5
  try clear hcz16_6
  try clear hcz16_7
  try clear hcz16_8
  try clear hcz16_9
  try clear hfz12_0
  try clear hfz12_1
  try clear hfz12_10
  try clear hfz12_11
  try clear hfz12_12
  try clear hfz12_13
  try clear hfz12_14
  try clear hfz12_15
  try clear hfz12_16
  try clear hfz12_17
  try clear hfz12_18
  try clear hfz12_19
  try clear hfz12_2
  try clear hfz12_20
  try clear hfz12_3
  try clear hfz12_4
  try clear hfz12_5
  try clear hfz12_6
  try clear hfz12_7
  try clear hfz12_8
  try clear hfz12_9
  try clear hfz13_0
  try clear hfz13_1
  try clear hfz13_10
  try clear hfz13_11
  try clear hfz13_12
  try clear hfz13_13
  try clear hfz13_14
  try clear hfz13_15
  try clear hfz13_16
  try clear hfz13_17
  try clear hfz13_18
  try clear hfz13_19
  try clear hfz13_2
  try clear hfz13_20
  try clear hfz13_3
  try clear hfz13_4
  try clear hfz13_5
  try clear hfz13_6
  try clear hfz13_7
  try clear hfz13_8
  try clear hfz13_9
  try clear hfz14_0
  try clear hfz14_1
  try clear hfz14_10
  try clear hfz14_11
  try clear hfz14_12
  try clear hfz14_13
  try clear hfz14_14
  try clear hfz14_15
  try clear hfz14_16
  try clear hfz14_17
  try clear hfz14_18
  try clear hfz14_19
  try clear hfz14_2
  try clear hfz14_20
  try clear hfz14_3
  try clear hfz14_4
  try clear hfz14_5
  try clear hfz14_6
  try clear hfz14_7
  try clear hfz14_8
  try clear hfz14_9
  try clear hfz15_0
  try clear hfz15_1
  try clear hfz15_10
  try clear hfz15_11
  try clear hfz15_12
  try clear hfz15_13
  try clear hfz15_14
  try clear hfz15_15
  try clear hfz15_16
  try clear hfz15_17
  try clear hfz15_18
  try clear hfz15_19
  try clear hfz15_2
  try clear hfz15_20
  try clear hfz15_3
  try clear hfz15_4
  try clear hfz15_5
  try clear hfz15_6
  try clear hfz15_7
  try clear hfz15_8
  try clear hfz15_9
  try clear hfz16_0
  try clear hfz16_1
  try clear hfz16_10
  try clear hfz16_11
  try clear hfz16_12
  try clear hfz16_13
  try clear hfz16_14
  try clear hfz16_15
  try clear hfz16_16
  try clear hfz16_17
  try clear hfz16_18
  try clear hfz16_19
  try clear hfz16_2
  try clear hfz16_20
  try clear hfz16_3
  try clear hfz16_4
  try clear hfz16_5
  try clear hfz16_6
  try clear hfz16_7
  try clear hfz16_8
  try clear hfz16_9
  obtain ⟨kq, x3_1, rfl, HA, HJ1, BK162, HB⟩ := hcut
  cases kq with
  | zero => exact absurd HA.out (by simp [compositorref14_Check.j0])
  | succ kj1 =>
   have H := HA.out
   clear HA
   simp only [compositorref14_Check.j0] at H
   have HC17 := Aside0.mk H
   clear H
   go_upto_region 2 with (fail)
   go_cut [4] (fun v4 wc => ∃ (kq : Nat) (x4_16 : Bool), v4 = .bool x4_16 ∧ Aside0 (compositorref14_Check.j1 kq x3_1 x4_16 a0_0 a0_1 a0_2 a0_3 l0_4 a0_5 a0_6 a0_7 a0_8 a0_9 a0_10 a0_11 a0_12 a0_13 a0_14 a0_15 a0_16 a0_17 a0_18 a0_19 a0_20 = some r) ∧ Aside0 (kq ≤ kj1) ∧ Aside0 (wc.heap[gb162]? = some (.cells #[.int .i64 a0_0, .int .i64 a0_1, .int .i64 a0_2, .int .i64 a0_3, (.slice A0_4 l0_4.length c0_4), .int .i64 a0_5, .int .i64 a0_6, .int .i64 a0_7, .int .i64 a0_8, .int .i64 a0_9, .int .i64 a0_10, .int .i64 a0_11, .int .i64 a0_12, .int .i64 a0_13, .int .i64 a0_14, .int .i64 a0_15, .int .i64 a0_16, .int .i64 a0_17, .int .i64 a0_18, .int .i64 a0_19, .int .i64 a0_20] 24 (0, 0))) ∧ Aside0 (Below w.heap.size w wc))
   case first => as_aux_lemma =>
    have H := HC17.out
    clear HC17
    replace H := Option.bind_eq_some_iff.mp H
    obtain ⟨t167, A180, H⟩ := H
    replace H : (if t167 = true then ((compositorref14_in.f a0_6 (-100) 100).bind fun t168 => (if t168 = true then ((compositorref14_in.f a0_7 0 40).bind fun t169 => (if t169 = true then ((compositorref14_in.f a0_8 0 40).bind fun t170 => (if t170 = true then ((compositorref14_in.f a0_9 (-1) 10000).bind fun t171 => (if t171 = true then ((compositorref14_in.f a0_10 0 10000).bind fun t172 => (if t172 = true then ((compositorref14_in.f a0_11 0 67108864).bind fun t173 => (compositorref14_Check.j1 kj1 x3_1 t173 a0_0 a0_1 a0_2 a0_3 l0_4 a0_5 a0_6 a0_7 a0_8 a0_9 a0_10 a0_11 a0_12 a0_13 a0_14 a0_15 a0_16 a0_17 a0_18 a0_19 a0_20)) else (compositorref14_Check.j1 kj1 x3_1 false a0_0 a0_1 a0_2 a0_3 l0_4 a0_5 a0_6 a0_7 a0_8 a0_9 a0_10 a0_11 a0_12 a0_13 a0_14 a0_15 a0_16 a0_17 a0_18 a0_19 a0_20))) else (compositorref14_Check.j1 kj1 x3_1 false a0_0 a0_1 a0_2 a0_3 l0_4 a0_5 a0_6 a0_7 a0_8 a0_9 a0_10 a0_11 a0_12 a0_13 a0_14 a0_15 a0_16 a0_17 a0_18 a0_19 a0_20))) else (compositorref14_Check.j1 kj1 x3_1 false a0_0 a0_1 a0_2 a0_3 l0_4 a0_5 a0_6 a0_7 a0_8 a0_9 a0_10 a0_11 a0_12 a0_13 a0_14 a0_15 a0_16 a0_17 a0_18 a0_19 a0_20))) else (compositorref14_Check.j1 kj1 x3_1 false a0_0 a0_1 a0_2 a0_3 l0_4 a0_5 a0_6 a0_7 a0_8 a0_9 a0_10 a0_11 a0_12 a0_13 a0_14 a0_15 a0_16 a0_17 a0_18 a0_19 a0_20))) else (compositorref14_Check.j1 kj1 x3_1 false a0_0 a0_1 a0_2 a0_3 l0_4 a0_5 a0_6 a0_7 a0_8 a0_9 a0_10 a0_11 a0_12 a0_13 a0_14 a0_15 a0_16 a0_17 a0_18 a0_19 a0_20))) else (compositorref14_Check.j1 kj1 x3_1 false a0_0 a0_1 a0_2 a0_3 l0_4 a0_5 a0_6 a0_7 a0_8 a0_9 a0_10 a0_11 a0_12 a0_13 a0_14 a0_15 a0_16 a0_17 a0_18 a0_19 a0_20)) = some r := H
    have A18 := Aside0.mk A180
    clear A180
    by_cases c19 : t167 = true
    ·subst c19
     have H1 : ((compositorref14_in.f a0_6 (-100) 100).bind fun t168 => (if t168 = true then ((compositorref14_in.f a0_7 0 40).bind fun t169 => (if t169 = true then ((compositorref14_in.f a0_8 0 40).bind fun t170 => (if t170 = true then ((compositorref14_in.f a0_9 (-1) 10000).bind fun t171 => (if t171 = true then ((compositorref14_in.f a0_10 0 10000).bind fun t172 => (if t172 = true then ((compositorref14_in.f a0_11 0 67108864).bind fun t173 => (compositorref14_Check.j1 kj1 x3_1 t173 a0_0 a0_1 a0_2 a0_3 l0_4 a0_5 a0_6 a0_7 a0_8 a0_9 a0_10 a0_11 a0_12 a0_13 a0_14 a0_15 a0_16 a0_17 a0_18 a0_19 a0_20)) else (compositorref14_Check.j1 kj1 x3_1 false a0_0 a0_1 a0_2 a0_3 l0_4 a0_5 a0_6 a0_7 a0_8 a0_9 a0_10 a0_11 a0_12 a0_13 a0_14 a0_15 a0_16 a0_17 a0_18 a0_19 a0_20))) else (compositorref14_Check.j1 kj1 x3_1 false a0_0 a0_1 a0_2 a0_3 l0_4 a0_5 a0_6 a0_7 a0_8 a0_9 a0_10 a0_11 a0_12 a0_13 a0_14 a0_15 a0_16 a0_17 a0_18 a0_19 a0_20))) else (compositorref14_Check.j1 kj1 x3_1 false a0_0 a0_1 a0_2 a0_3 l0_4 a0_5 a0_6 a0_7 a0_8 a0_9 a0_10 a0_11 a0_12 a0_13 a0_14 a0_15 a0_16 a0_17 a0_18 a0_19 a0_20))) else (compositorref14_Check.j1 kj1 x3_1 false a0_0 a0_1 a0_2 a0_3 l0_4 a0_5 a0_6 a0_7 a0_8 a0_9 a0_10 a0_11 a0_12 a0_13 a0_14 a0_15 a0_16 a0_17 a0_18 a0_19 a0_20))) else (compositorref14_Check.j1 kj1 x3_1 false a0_0 a0_1 a0_2 a0_3 l0_4 a0_5 a0_6 a0_7 a0_8 a0_9 a0_10 a0_11 a0_12 a0_13 a0_14 a0_15 a0_16 a0_17 a0_18 a0_19 a0_20))) = some r := by rw [if_pos rfl] at H; exact H
     clear H
     have H := H1
     clear H1
     replace H := Option.bind_eq_some_iff.mp H
     obtain ⟨t168, A200, H⟩ := H
     replace H : (if t168 = true then ((compositorref14_in.f a0_7 0 40).bind fun t169 => (if t169 = true then ((compositorref14_in.f a0_8 0 40).bind fun t170 => (if t170 = true then ((compositorref14_in.f a0_9 (-1) 10000).bind fun t171 => (if t171 = true then ((compositorref14_in.f a0_10 0 10000).bind fun t172 => (if t172 = true then ((compositorref14_in.f a0_11 0 67108864).bind fun t173 => (compositorref14_Check.j1 kj1 x3_1 t173 a0_0 a0_1 a0_2 a0_3 l0_4 a0_5 a0_6 a0_7 a0_8 a0_9 a0_10 a0_11 a0_12 a0_13 a0_14 a0_15 a0_16 a0_17 a0_18 a0_19 a0_20)) else (compositorref14_Check.j1 kj1 x3_1 false a0_0 a0_1 a0_2 a0_3 l0_4 a0_5 a0_6 a0_7 a0_8 a0_9 a0_10 a0_11 a0_12 a0_13 a0_14 a0_15 a0_16 a0_17 a0_18 a0_19 a0_20))) else (compositorref14_Check.j1 kj1 x3_1 false a0_0 a0_1 a0_2 a0_3 l0_4 a0_5 a0_6 a0_7 a0_8 a0_9 a0_10 a0_11 a0_12 a0_13 a0_14 a0_15 a0_16 a0_17 a0_18 a0_19 a0_20))) else (compositorref14_Check.j1 kj1 x3_1 false a0_0 a0_1 a0_2 a0_3 l0_4 a0_5 a0_6 a0_7 a0_8 a0_9 a0_10 a0_11 a0_12 a0_13 a0_14 a0_15 a0_16 a0_17 a0_18 a0_19 a0_20))) else (compositorref14_Check.j1 kj1 x3_1 false a0_0 a0_1 a0_2 a0_3 l0_4 a0_5 a0_6 a0_7 a0_8 a0_9 a0_10 a0_11 a0_12 a0_13 a0_14 a0_15 a0_16 a0_17 a0_18 a0_19 a0_20))) else (compositorref14_Check.j1 kj1 x3_1 false a0_0 a0_1 a0_2 a0_3 l0_4 a0_5 a0_6 a0_7 a0_8 a0_9 a0_10 a0_11 a0_12 a0_13 a0_14 a0_15 a0_16 a0_17 a0_18 a0_19 a0_20)) = some r := H
     have A20 := Aside0.mk A200
     clear A200
     by_cases c21 : t168 = true
     ·subst c21
      have H1 : ((compositorref14_in.f a0_7 0 40).bind fun t169 => (if t169 = true then ((compositorref14_in.f a0_8 0 40).bind fun t170 => (if t170 = true then ((compositorref14_in.f a0_9 (-1) 10000).bind fun t171 => (if t171 = true then ((compositorref14_in.f a0_10 0 10000).bind fun t172 => (if t172 = true then ((compositorref14_in.f a0_11 0 67108864).bind fun t173 => (compositorref14_Check.j1 kj1 x3_1 t173 a0_0 a0_1 a0_2 a0_3 l0_4 a0_5 a0_6 a0_7 a0_8 a0_9 a0_10 a0_11 a0_12 a0_13 a0_14 a0_15 a0_16 a0_17 a0_18 a0_19 a0_20)) else (compositorref14_Check.j1 kj1 x3_1 false a0_0 a0_1 a0_2 a0_3 l0_4 a0_5 a0_6 a0_7 a0_8 a0_9 a0_10 a0_11 a0_12 a0_13 a0_14 a0_15 a0_16 a0_17 a0_18 a0_19 a0_20))) else (compositorref14_Check.j1 kj1 x3_1 false a0_0 a0_1 a0_2 a0_3 l0_4 a0_5 a0_6 a0_7 a0_8 a0_9 a0_10 a0_11 a0_12 a0_13 a0_14 a0_15 a0_16 a0_17 a0_18 a0_19 a0_20))) else (compositorref14_Check.j1 kj1 x3_1 false a0_0 a0_1 a0_2 a0_3 l0_4 a0_5 a0_6 a0_7 a0_8 a0_9 a0_10 a0_11 a0_12 a0_13 a0_14 a0_15 a0_16 a0_17 a0_18 a0_19 a0_20))) else (compositorref14_Check.j1 kj1 x3_1 false a0_0 a0_1 a0_2 a0_3 l0_4 a0_5 a0_6 a0_7 a0_8 a0_9 a0_10 a0_11 a0_12 a0_13 a0_14 a0_15 a0_16 a0_17 a0_18 a0_19 a0_20))) = some r := by rw [if_pos rfl] at H; exact H
      clear H
      have H := H1
      clear H1
      replace H := Option.bind_eq_some_iff.mp H
      obtain ⟨t169, A220, H⟩ := H
      replace H : (if t169 = true then ((compositorref14_in.f a0_8 0 40).bind fun t170 => (if t170 = true then ((compositorref14_in.f a0_9 (-1) 10000).bind fun t171 => (if t171 = true then ((compositorref14_in.f a0_10 0 10000).bind fun t172 => (if t172 = true then ((compositorref14_in.f a0_11 0 67108864).bind fun t173 => (compositorref14_Check.j1 kj1 x3_1 t173 a0_0 a0_1 a0_2 a0_3 l0_4 a0_5 a0_6 a0_7 a0_8 a0_9 a0_10 a0_11 a0_12 a0_13 a0_14 a0_15 a0_16 a0_17 a0_18 a0_19 a0_20)) else (compositorref14_Check.j1 kj1 x3_1 false a0_0 a0_1 a0_2 a0_3 l0_4 a0_5 a0_6 a0_7 a0_8 a0_9 a0_10 a0_11 a0_12 a0_13 a0_14 a0_15 a0_16 a0_17 a0_18 a0_19 a0_20))) else (compositorref14_Check.j1 kj1 x3_1 false a0_0 a0_1 a0_2 a0_3 l0_4 a0_5 a0_6 a0_7 a0_8 a0_9 a0_10 a0_11 a0_12 a0_13 a0_14 a0_15 a0_16 a0_17 a0_18 a0_19 a0_20))) else (compositorref14_Check.j1 kj1 x3_1 false a0_0 a0_1 a0_2 a0_3 l0_4 a0_5 a0_6 a0_7 a0_8 a0_9 a0_10 a0_11 a0_12 a0_13 a0_14 a0_15 a0_16 a0_17 a0_18 a0_19 a0_20))) else (compositorref14_Check.j1 kj1 x3_1 false a0_0 a0_1 a0_2 a0_3 l0_4 a0_5 a0_6 a0_7 a0_8 a0_9 a0_10 a0_11 a0_12 a0_13 a0_14 a0_15 a0_16 a0_17 a0_18 a0_19 a0_20)) = some r := H
      have A22 := Aside0.mk A220
      clear A220
      by_cases c23 : t169 = true
      ·subst c23
       have H1 : ((compositorref14_in.f a0_8 0 40).bind fun t170 => (if t170 = true then ((compositorref14_in.f a0_9 (-1) 10000).bind fun t171 => (if t171 = true then ((compositorref14_in.f a0_10 0 10000).bind fun t172 => (if t172 = true then ((compositorref14_in.f a0_11 0 67108864).bind fun t173 => (compositorref14_Check.j1 kj1 x3_1 t173 a0_0 a0_1 a0_2 a0_3 l0_4 a0_5 a0_6 a0_7 a0_8 a0_9 a0_10 a0_11 a0_12 a0_13 a0_14 a0_15 a0_16 a0_17 a0_18 a0_19 a0_20)) else (compositorref14_Check.j1 kj1 x3_1 false a0_0 a0_1 a0_2 a0_3 l0_4 a0_5 a0_6 a0_7 a0_8 a0_9 a0_10 a0_11 a0_12 a0_13 a0_14 a0_15 a0_16 a0_17 a0_18 a0_19 a0_20))) else (compositorref14_Check.j1 kj1 x3_1 false a0_0 a0_1 a0_2 a0_3 l0_4 a0_5 a0_6 a0_7 a0_8 a0_9 a0_10 a0_11 a0_12 a0_13 a0_14 a0_15 a0_16 a0_17 a0_18 a0_19 a0_20))) else (compositorref14_Check.j1 kj1 x3_1 false a0_0 a0_1 a0_2 a0_3 l0_4 a0_5 a0_6 a0_7 a0_8 a0_9 a0_10 a0_11 a0_12 a0_13 a0_14 a0_15 a0_16 a0_17 a0_18 a0_19 a0_20))) = some r := by rw [if_pos rfl] at H; exact H
       clear H
       have H := H1
       clear H1
       replace H := Option.bind_eq_some_iff.mp H
       obtain ⟨t170, A240, H⟩ := H
       replace H : (if t170 = true then ((compositorref14_in.f a0_9 (-1) 10000).bind fun t171 => (if t171 = true then ((compositorref14_in.f a0_10 0 10000).bind fun t172 => (if t172 = true then ((compositorref14_in.f a0_11 0 67108864).bind fun t173 => (compositorref14_Check.j1 kj1 x3_1 t173 a0_0 a0_1 a0_2 a0_3 l0_4 a0_5 a0_6 a0_7 a0_8 a0_9 a0_10 a0_11 a0_12 a0_13 a0_14 a0_15 a0_16 a0_17 a0_18 a0_19 a0_20)) else (compositorref14_Check.j1 kj1 x3_1 false a0_0 a0_1 a0_2 a0_3 l0_4 a0_5 a0_6 a0_7 a0_8 a0_9 a0_10 a0_11 a0_12 a0_13 a0_14 a0_15 a0_16 a0_17 a0_18 a0_19 a0_20))) else (compositorref14_Check.j1 kj1 x3_1 false a0_0 a0_1 a0_2 a0_3 l0_4 a0_5 a0_6 a0_7 a0_8 a0_9 a0_10 a0_11 a0_12 a0_13 a0_14 a0_15 a0_16 a0_17 a0_18 a0_19 a0_20))) else (compositorref14_Check.j1 kj1 x3_1 false a0_0 a0_1 a0_2 a0_3 l0_4 a0_5 a0_6 a0_7 a0_8 a0_9 a0_10 a0_11 a0_12 a0_13 a0_14 a0_15 a0_16 a0_17 a0_18 a0_19 a0_20)) = some r := H
       have A24 := Aside0.mk A240
       clear A240
       by_cases c25 : t170 = true
       ·subst c25
        have H1 : ((compositorref14_in.f a0_9 (-1) 10000).bind fun t171 => (if t171 = true then ((compositorref14_in.f a0_10 0 10000).bind fun t172 => (if t172 = true then ((compositorref14_in.f a0_11 0 67108864).bind fun t173 => (compositorref14_Check.j1 kj1 x3_1 t173 a0_0 a0_1 a0_2 a0_3 l0_4 a0_5 a0_6 a0_7 a0_8 a0_9 a0_10 a0_11 a0_12 a0_13 a0_14 a0_15 a0_16 a0_17 a0_18 a0_19 a0_20)) else (compositorref14_Check.j1 kj1 x3_1 false a0_0 a0_1 a0_2 a0_3 l0_4 a0_5 a0_6 a0_7 a0_8 a0_9 a0_10 a0_11 a0_12 a0_13 a0_14 a0_15 a0_16 a0_17 a0_18 a0_19 a0_20))) else (compositorref14_Check.j1 kj1 x3_1 false a0_0 a0_1 a0_2 a0_3 l0_4 a0_5 a0_6 a0_7 a0_8 a0_9 a0_10 a0_11 a0_12 a0_13 a0_14 a0_15 a0_16 a0_17 a0_18 a0_19 a0_20))) = some r := by rw [if_pos rfl] at H; exact H
        clear H
        have H := H1
        clear H1
        replace H := Option.bind_eq_some_iff.mp H
        obtain ⟨t171, A260, H⟩ := H
        replace H : (if t171 = true then ((compositorref14_in.f a0_10 0 10000).bind fun t172 => (if t172 = true then ((compositorref14_in.f a0_11 0 67108864).bind fun t173 => (compositorref14_Check.j1 kj1 x3_1 t173 a0_0 a0_1 a0_2 a0_3 l0_4 a0_5 a0_6 a0_7 a0_8 a0_9 a0_10 a0_11 a0_12 a0_13 a0_14 a0_15 a0_16 a0_17 a0_18 a0_19 a0_20)) else (compositorref14_Check.j1 kj1 x3_1 false a0_0 a0_1 a0_2 a0_3 l0_4 a0_5 a0_6 a0_7 a0_8 a0_9 a0_10 a0_11 a0_12 a0_13 a0_14 a0_15 a0_16 a0_17 a0_18 a0_19 a0_20))) else (compositorref14_Check.j1 kj1 x3_1 false a0_0 a0_1 a0_2 a0_3 l0_4 a0_5 a0_6 a0_7 a0_8 a0_9 a0_10 a0_11 a0_12 a0_13 a0_14 a0_15 a0_16 a0_17 a0_18 a0_19 a0_20)) = some r := H
        have A26 := Aside0.mk A260
        clear A260
        by_cases c27 : t171 = true
        ·subst c27
         have H1 : ((compositorref14_in.f a0_10 0 10000).bind fun t172 => (if t172 = true then ((compositorref14_in.f a0_11 0 67108864).bind fun t173 => (compositorref14_Check.j1 kj1 x3_1 t173 a0_0 a0_1 a0_2 a0_3 l0_4 a0_5 a0_6 a0_7 a0_8 a0_9 a0_10 a0_11 a0_12 a0_13 a0_14 a0_15 a0_16 a0_17 a0_18 a0_19 a0_20)) else (compositorref14_Check.j1 kj1 x3_1 false a0_0 a0_1 a0_2 a0_3 l0_4 a0_5 a0_6 a0_7 a0_8 a0_9 a0_10 a0_11 a0_12 a0_13 a0_14 a0_15 a0_16 a0_17 a0_18 a0_19 a0_20))) = some r := by rw [if_pos rfl] at H; exact H
         clear H
         have H := H1
         clear H1
         replace H := Option.bind_eq_some_iff.mp H
         obtain ⟨t172, A280, H⟩ := H
         replace H : (if t172 = true then ((compositorref14_in.f a0_11 0 67108864).bind fun t173 => (compositorref14_Check.j1 kj1 x3_1 t173 a0_0 a0_1 a0_2 a0_3 l0_4 a0_5 a0_6 a0_7 a0_8 a0_9 a0_10 a0_11 a0_12 a0_13 a0_14 a0_15 a0_16 a0_17 a0_18 a0_19 a0_20)) else (compositorref14_Check.j1 kj1 x3_1 false a0_0 a0_1 a0_2 a0_3 l0_4 a0_5 a0_6 a0_7 a0_8 a0_9 a0_10 a0_11 a0_12 a0_13 a0_14 a0_15 a0_16 a0_17 a0_18 a0_19 a0_20)) = some r := H
         have A28 := Aside0.mk A280
         clear A280
         by_cases c29 : t172 = true
         ·subst c29
          have H1 : ((compositorref14_in.f a0_11 0 67108864).bind fun t173 => (compositorref14_Check.j1 kj1 x3_1 t173 a0_0 a0_1 a0_2 a0_3 l0_4 a0_5 a0_6 a0_7 a0_8 a0_9 a0_10 a0_11 a0_12 a0_13 a0_14 a0_15 a0_16 a0_17 a0_18 a0_19 a0_20)) = some r := by rw [if_pos rfl] at H; exact H
          clear H
          have H := H1
          clear H1
          replace H := Option.bind_eq_some_iff.mp H
          obtain ⟨t173, A300, H⟩ := H
          replace H : (compositorref14_Check.j1 kj1 x3_1 t173 a0_0 a0_1 a0_2 a0_3 l0_4 a0_5 a0_6 a0_7 a0_8 a0_9 a0_10 a0_11 a0_12 a0_13 a0_14 a0_15 a0_16 a0_17 a0_18 a0_19 a0_20) = some r := H
          have A30 := Aside0.mk A300
          clear A300
          have H' := Aside0.mk H
          clear H
          have hcz31_0 := blk_cell BK162.out
          have hfz31_0 := blk_frozen BK162.out
          have tk_ : True := trivial
          go_wp2_with (first | ((with_reducible refine gate_load (T := 24) rfl ?_); refine load_row_event (by first | rfl | (go_simp; done)) 24 _ rfl gb162 rfl 24 _ (0, 0) _ (by (with_reducible repeat (first | refine blk_drewN ?_ _ | refine blk_drew ?_ | refine blk_alloc ?_ _)); first | with_reducible exact BK162.out) hu24 rfl (by kernel_rfl) ?_) | ((with_reducible refine gate_store (t := 24) rfl ?_); refine store_row_event (base := w.heap.size) rfl rfl 24 _ _ rfl (g := gb162) (by rfl) (by rfl) (by (with_reducible repeat (first | refine blk_drewN ?_ _ | refine blk_drew ?_ | refine blk_alloc ?_ _)); exact BK162.out) (by kernel_rfl) (by rfl) (by rfl) GE162.out ?_; intro ws_ hs_ hk_ hb_; have n0_ := Aside0.mk (Below.trans (by repeat (first | (with_reducible first | exact HB.out | apply below_alloc | apply pw_below_drewN | apply below_drew1) | exact HB.out)) hb_); clear HB; have HB := n0_; clear n0_; clear BK162; have BK162 := Aside0.mk hs_; clear hs_; have hxs_ := blk_cell BK162.out; have hys_ := blk_frozen BK162.out; clear hk_ hb_) | (go_at_call 26; clear tk_; (with_reducible refine (compositorref14_in.calls a0_5 (wrap64 (1 - a0_0)) (wrap64 (a0_0 - 1)) true _ A18.out).mono ?_); rintro e w' ⟨rfl, ⟨nd, rfl⟩⟩))
          as_aux_lemma =>
          have tk_ : True := trivial
          go_wp2_with (first | ((with_reducible refine gate_load (T := 24) rfl ?_); refine load_row_event (by first | rfl | (go_simp; done)) 24 _ rfl gb162 rfl 24 _ (0, 0) _ (by (with_reducible repeat (first | refine blk_drewN ?_ _ | refine blk_drew ?_ | refine blk_alloc ?_ _)); first | with_reducible exact BK162.out) hu24 rfl (by kernel_rfl) ?_) | ((with_reducible refine gate_store (t := 24) rfl ?_); refine store_row_event (base := w.heap.size) rfl rfl 24 _ _ rfl (g := gb162) (by rfl) (by rfl) (by (with_reducible repeat (first | refine blk_drewN ?_ _ | refine blk_drew ?_ | refine blk_alloc ?_ _)); exact BK162.out) (by kernel_rfl) (by rfl) (by rfl) GE162.out ?_; intro ws_ hs_ hk_ hb_; have n0_ := Aside0.mk (Below.trans (by repeat (first | (with_reducible first | exact HB.out | apply below_alloc | apply pw_below_drewN | apply below_drew1) | exact HB.out)) hb_); clear HB; have HB := n0_; clear n0_; clear BK162; have BK162 := Aside0.mk hs_; clear hs_; have hxs_ := blk_cell BK162.out; have hys_ := blk_frozen BK162.out; clear hk_ hb_) | (go_at_call 26; clear tk_; (with_reducible refine (compositorref14_in.calls a0_6 (-100) 100 true _ A20.out).mono ?_); rintro e w' ⟨rfl, ⟨nd, rfl⟩⟩))
          as_aux_lemma =>
          have tk_ : True := trivial
          go_wp2_with (first | ((with_reducible refine gate_load (T := 24) rfl ?_); refine load_row_event (by first | rfl | (go_simp; done)) 24 _ rfl gb162 rfl 24 _ (0, 0) _ (by (with_reducible repeat (first | refine blk_drewN ?_ _ | refine blk_drew ?_ | refine blk_alloc ?_ _)); first | with_reducible exact BK162.out) hu24 rfl (by kernel_rfl) ?_) | ((with_reducible refine gate_store (t := 24) rfl ?_); refine store_row_event (base := w.heap.size) rfl rfl 24 _ _ rfl (g := gb162) (by rfl) (by rfl) (by (with_reducible repeat (first | refine blk_drewN ?_ _ | refine blk_drew ?_ | refine blk_alloc ?_ _)); exact BK162.out) (by kernel_rfl) (by rfl) (by rfl) GE162.out ?_; intro ws_ hs_ hk_ hb_; have n0_ := Aside0.mk (Below.trans (by repeat (first | (with_reducible first | exact HB.out | apply below_alloc | apply pw_below_drewN | apply below_drew1) | exact HB.out)) hb_); clear HB; have HB := n0_; clear n0_; clear BK162; have BK162 := Aside0.mk hs_; clear hs_; have hxs_ := blk_cell BK162.out; have hys_ := blk_frozen BK162.out; clear hk_ hb_) | (go_at_call 26; clear tk_; (with_reducible refine (compositorref14_in.calls a0_7 0 40 true _ A22.out).mono ?_); rintro e w' ⟨rfl, ⟨nd, rfl⟩⟩))
          as_aux_lemma =>
          have tk_ : True := trivial
          go_wp2_with (first | ((with_reducible refine gate_load (T := 24) rfl ?_); refine load_row_event (by first | rfl | (go_simp; done)) 24 _ rfl gb162 rfl 24 _ (0, 0) _ (by (with_reducible repeat (first | refine blk_drewN ?_ _ | refine blk_drew ?_ | refine blk_alloc ?_ _)); first | with_reducible exact BK162.out) hu24 rfl (by kernel_rfl) ?_) | ((with_reducible refine gate_store (t := 24) rfl ?_); refine store_row_event (base := w.heap.size) rfl rfl 24 _ _ rfl (g := gb162) (by rfl) (by rfl) (by (with_reducible repeat (first | refine blk_drewN ?_ _ | refine blk_drew ?_ | refine blk_alloc ?_ _)); exact BK162.out) (by kernel_rfl) (by rfl) (by rfl) GE162.out ?_; intro ws_ hs_ hk_ hb_; have n0_ := Aside0.mk (Below.trans (by repeat (first | (with_reducible first | exact HB.out | apply below_alloc | apply pw_below_drewN | apply below_drew1) | exact HB.out)) hb_); clear HB; have HB := n0_; clear n0_; clear BK162; have BK162 := Aside0.mk hs_; clear hs_; have hxs_ := blk_cell BK162.out; have hys_ := blk_frozen BK162.out; clear hk_ hb_) | (go_at_call 26; clear tk_; (with_reducible refine (compositorref14_in.calls a0_8 0 40 true _ A24.out).mono ?_); rintro e w' ⟨rfl, ⟨nd, rfl⟩⟩))
          as_aux_lemma =>
          have tk_ : True := trivial
          go_wp2_with (first | ((with_reducible refine gate_load (T := 24) rfl ?_); refine load_row_event (by first | rfl | (go_simp; done)) 24 _ rfl gb162 rfl 24 _ (0, 0) _ (by (with_reducible repeat (first | refine blk_drewN ?_ _ | refine blk_drew ?_ | refine blk_alloc ?_ _)); first | with_reducible exact BK162.out) hu24 rfl (by kernel_rfl) ?_) | ((with_reducible refine gate_store (t := 24) rfl ?_); refine store_row_event (base := w.heap.size) rfl rfl 24 _ _ rfl (g := gb162) (by rfl) (by rfl) (by (with_reducible repeat (first | refine blk_drewN ?_ _ | refine blk_drew ?_ | refine blk_alloc ?_ _)); exact BK162.out) (by kernel_rfl) (by rfl) (by rfl) GE162.out ?_; intro ws_ hs_ hk_ hb_; have n0_ := Aside0.mk (Below.trans (by repeat (first | (with_reducible first | exact HB.out | apply below_alloc | apply pw_below_drewN | apply below_drew1) | exact HB.out)) hb_); clear HB; have HB := n0_; clear n0_; clear BK162; have BK162 := Aside0.mk hs_; clear hs_; have hxs_ := blk_cell BK162.out; have hys_ := blk_frozen BK162.out; clear hk_ hb_) | (go_at_call 26; clear tk_; (with_reducible refine (compositorref14_in.calls a0_9 (-1) 10000 true _ A26.out).mono ?_); rintro e w' ⟨rfl, ⟨nd, rfl⟩⟩))
          as_aux_lemma =>
          have tk_ : True := trivial
          go_wp2_with (first | ((with_reducible refine gate_load (T := 24) rfl ?_); refine load_row_event (by first | rfl | (go_simp; done)) 24 _ rfl gb162 rfl 24 _ (0, 0) _ (by (with_reducible repeat (first | refine blk_drewN ?_ _ | refine blk_drew ?_ | refine blk_alloc ?_ _)); first | with_reducible exact BK162.out) hu24 rfl (by kernel_rfl) ?_) | ((with_reducible refine gate_store (t := 24) rfl ?_); refine store_row_event (base := w.heap.size) rfl rfl 24 _ _ rfl (g := gb162) (by rfl) (by rfl) (by (with_reducible repeat (first | refine blk_drewN ?_ _ | refine blk_drew ?_ | refine blk_alloc ?_ _)); exact BK162.out) (by kernel_rfl) (by rfl) (by rfl) GE162.out ?_; intro ws_ hs_ hk_ hb_; have n0_ := Aside0.mk (Below.trans (by repeat (first | (with_reducible first | exact HB.out | apply below_alloc | apply pw_below_drewN | apply below_drew1) | exact HB.out)) hb_); clear HB; have HB := n0_; clear n0_; clear BK162; have BK162 := Aside0.mk hs_; clear hs_; have hxs_ := blk_cell BK162.out; have hys_ := blk_frozen BK162.out; clear hk_ hb_) | (go_at_call 26; clear tk_; (with_reducible refine (compositorref14_in.calls a0_10 0 10000 true _ A28.out).mono ?_); rintro e w' ⟨rfl, ⟨nd, rfl⟩⟩))
          as_aux_lemma =>
          have tk_ : True := trivial
          go_wp2_with (first | ((with_reducible refine gate_load (T := 24) rfl ?_); refine load_row_event (by first | rfl | (go_simp; done)) 24 _ rfl gb162 rfl 24 _ (0, 0) _ (by (with_reducible repeat (first | refine blk_drewN ?_ _ | refine blk_drew ?_ | refine blk_alloc ?_ _)); first | with_reducible exact BK162.out) hu24 rfl (by kernel_rfl) ?_) | ((with_reducible refine gate_store (t := 24) rfl ?_); refine store_row_event (base := w.heap.size) rfl rfl 24 _ _ rfl (g := gb162) (by rfl) (by rfl) (by (with_reducible repeat (first | refine blk_drewN ?_ _ | refine blk_drew ?_ | refine blk_alloc ?_ _)); exact BK162.out) (by kernel_rfl) (by rfl) (by rfl) GE162.out ?_; intro ws_ hs_ hk_ hb_; have n0_ := Aside0.mk (Below.trans (by repeat (first | (with_reducible first | exact HB.out | apply below_alloc | apply pw_below_drewN | apply below_drew1) | exact HB.out)) hb_); clear HB; have HB := n0_; clear n0_; clear BK162; have BK162 := Aside0.mk hs_; clear hs_; have hxs_ := blk_cell BK162.out; have hys_ := blk_frozen BK162.out; clear hk_ hb_) | (go_at_call 26; clear tk_; (with_reducible refine (compositorref14_in.calls a0_11 0 67108864 t173 _ A30.out).mono ?_); rintro e w' ⟨rfl, ⟨nd, rfl⟩⟩))
          go_meet
          case rel => exact ⟨_, (t173), (by first | rfl | (simp; done) | (simp [*]; done)), H', ⟨by have := HJ1.out; first | omega | exact Nat.le_refl _⟩, ⟨by (with_reducible repeat (first | refine blk_drewN ?_ _ | refine blk_drew ?_ | refine blk_alloc ?_ _)); exact BK162.out⟩, ⟨by repeat (first | (with_reducible first | exact HB.out | apply below_alloc | apply pw_below_drewN | apply below_drew1 | refine below_set ?_ GE162.out) | exact HB.out)⟩⟩
         ·replace c29 := Bool.eq_false_iff.mpr c29
          subst c29
          have H1 : (compositorref14_Check.j1 kj1 x3_1 false a0_0 a0_1 a0_2 a0_3 l0_4 a0_5 a0_6 a0_7 a0_8 a0_9 a0_10 a0_11 a0_12 a0_13 a0_14 a0_15 a0_16 a0_17 a0_18 a0_19 a0_20) = some r := by rw [if_neg (show ¬ (false = true) by decide)] at H; exact H
          clear H
          have H := H1
          clear H1
          have H' := Aside0.mk H
          clear H
          have hcz32_0 := blk_cell BK162.out
          have hfz32_0 := blk_frozen BK162.out
          have tk_ : True := trivial
          go_wp2_with (first | ((with_reducible refine gate_load (T := 24) rfl ?_); refine load_row_event (by first | rfl | (go_simp; done)) 24 _ rfl gb162 rfl 24 _ (0, 0) _ (by (with_reducible repeat (first | refine blk_drewN ?_ _ | refine blk_drew ?_ | refine blk_alloc ?_ _)); first | with_reducible exact BK162.out) hu24 rfl (by kernel_rfl) ?_) | ((with_reducible refine gate_store (t := 24) rfl ?_); refine store_row_event (base := w.heap.size) rfl rfl 24 _ _ rfl (g := gb162) (by rfl) (by rfl) (by (with_reducible repeat (first | refine blk_drewN ?_ _ | refine blk_drew ?_ | refine blk_alloc ?_ _)); exact BK162.out) (by kernel_rfl) (by rfl) (by rfl) GE162.out ?_; intro ws_ hs_ hk_ hb_; have n0_ := Aside0.mk (Below.trans (by repeat (first | (with_reducible first | exact HB.out | apply below_alloc | apply pw_below_drewN | apply below_drew1) | exact HB.out)) hb_); clear HB; have HB := n0_; clear n0_; clear BK162; have BK162 := Aside0.mk hs_; clear hs_; have hxs_ := blk_cell BK162.out; have hys_ := blk_frozen BK162.out; clear hk_ hb_) | (go_at_call 26; clear tk_; (with_reducible refine (compositorref14_in.calls a0_5 (wrap64 (1 - a0_0)) (wrap64 (a0_0 - 1)) true _ A18.out).mono ?_); rintro e w' ⟨rfl, ⟨nd, rfl⟩⟩))
          as_aux_lemma =>
          have tk_ : True := trivial
          go_wp2_with (first | ((with_reducible refine gate_load (T := 24) rfl ?_); refine load_row_event (by first | rfl | (go_simp; done)) 24 _ rfl gb162 rfl 24 _ (0, 0) _ (by (with_reducible repeat (first | refine blk_drewN ?_ _ | refine blk_drew ?_ | refine blk_alloc ?_ _)); first | with_reducible exact BK162.out) hu24 rfl (by kernel_rfl) ?_) | ((with_reducible refine gate_store (t := 24) rfl ?_); refine store_row_event (base := w.heap.size) rfl rfl 24 _ _ rfl (g := gb162) (by rfl) (by rfl) (by (with_reducible repeat (first | refine blk_drewN ?_ _ | refine blk_drew ?_ | refine blk_alloc ?_ _)); exact BK162.out) (by kernel_rfl) (by rfl) (by rfl) GE162.out ?_; intro ws_ hs_ hk_ hb_; have n0_ := Aside0.mk (Below.trans (by repeat (first | (with_reducible first | exact HB.out | apply below_alloc | apply pw_below_drewN | apply below_drew1) | exact HB.out)) hb_); clear HB; have HB := n0_; clear n0_; clear BK162; have BK162 := Aside0.mk hs_; clear hs_; have hxs_ := blk_cell BK162.out; have hys_ := blk_frozen BK162.out; clear hk_ hb_) | (go_at_call 26; clear tk_; (with_reducible refine (compositorref14_in.calls a0_6 (-100) 100 true _ A20.out).mono ?_); rintro e w' ⟨rfl, ⟨nd, rfl⟩⟩))
          as_aux_lemma =>
          have tk_ : True := trivial
          go_wp2_with (first | ((with_reducible refine gate_load (T := 24) rfl ?_); refine load_row_event (by first | rfl | (go_simp; done)) 24 _ rfl gb162 rfl 24 _ (0, 0) _ (by (with_reducible repeat (first | refine blk_drewN ?_ _ | refine blk_drew ?_ | refine blk_alloc ?_ _)); first | with_reducible exact BK162.out) hu24 rfl (by kernel_rfl) ?_) | ((with_reducible refine gate_store (t := 24) rfl ?_); refine store_row_event (base := w.heap.size) rfl rfl 24 _ _ rfl (g := gb162) (by rfl) (by rfl) (by (with_reducible repeat (first | refine blk_drewN ?_ _ | refine blk_drew ?_ | refine blk_alloc ?_ _)); exact BK162.out) (by kernel_rfl) (by rfl) (by rfl) GE162.out ?_; intro ws_ hs_ hk_ hb_; have n0_ := Aside0.mk (Below.trans (by repeat (first | (with_reducible first | exact HB.out | apply below_alloc | apply pw_below_drewN | apply below_drew1) | exact HB.out)) hb_); clear HB; have HB := n0_; clear n0_; clear BK162; have BK162 := Aside0.mk hs_; clear hs_; have hxs_ := blk_cell BK162.out; have hys_ := blk_frozen BK162.out; clear hk_ hb_) | (go_at_call 26; clear tk_; (with_reducible refine (compositorref14_in.calls a0_7 0 40 true _ A22.out).mono ?_); rintro e w' ⟨rfl, ⟨nd, rfl⟩⟩))
          as_aux_lemma =>
          have tk_ : True := trivial
          go_wp2_with (first | ((with_reducible refine gate_load (T := 24) rfl ?_); refine load_row_event (by first | rfl | (go_simp; done)) 24 _ rfl gb162 rfl 24 _ (0, 0) _ (by (with_reducible repeat (first | refine blk_drewN ?_ _ | refine blk_drew ?_ | refine blk_alloc ?_ _)); first | with_reducible exact BK162.out) hu24 rfl (by kernel_rfl) ?_) | ((with_reducible refine gate_store (t := 24) rfl ?_); refine store_row_event (base := w.heap.size) rfl rfl 24 _ _ rfl (g := gb162) (by rfl) (by rfl) (by (with_reducible repeat (first | refine blk_drewN ?_ _ | refine blk_drew ?_ | refine blk_alloc ?_ _)); exact BK162.out) (by kernel_rfl) (by rfl) (by rfl) GE162.out ?_; intro ws_ hs_ hk_ hb_; have n0_ := Aside0.mk (Below.trans (by repeat (first | (with_reducible first | exact HB.out | apply below_alloc | apply pw_below_drewN | apply below_drew1) | exact HB.out)) hb_); clear HB; have HB := n0_; clear n0_; clear BK162; have BK162 := Aside0.mk hs_; clear hs_; have hxs_ := blk_cell BK162.out; have hys_ := blk_frozen BK162.out; clear hk_ hb_) | (go_at_call 26; clear tk_; (with_reducible refine (compositorref14_in.calls a0_8 0 40 true _ A24.out).mono ?_); rintro e w' ⟨rfl, ⟨nd, rfl⟩⟩))
          as_aux_lemma =>
          have tk_ : True := trivial
          go_wp2_with (first | ((with_reducible refine gate_load (T := 24) rfl ?_); refine load_row_event (by first | rfl | (go_simp; done)) 24 _ rfl gb162 rfl 24 _ (0, 0) _ (by (with_reducible repeat (first | refine blk_drewN ?_ _ | refine blk_drew ?_ | refine blk_alloc ?_ _)); first | with_reducible exact BK162.out) hu24 rfl (by kernel_rfl) ?_) | ((with_reducible refine gate_store (t := 24) rfl ?_); refine store_row_event (base := w.heap.size) rfl rfl 24 _ _ rfl (g := gb162) (by rfl) (by rfl) (by (with_reducible repeat (first | refine blk_drewN ?_ _ | refine blk_drew ?_ | refine blk_alloc ?_ _)); exact BK162.out) (by kernel_rfl) (by rfl) (by rfl) GE162.out ?_; intro ws_ hs_ hk_ hb_; have n0_ := Aside0.mk (Below.trans (by repeat (first | (with_reducible first | exact HB.out | apply below_alloc | apply pw_below_drewN | apply below_drew1) | exact HB.out)) hb_); clear HB; have HB := n0_; clear n0_; clear BK162; have BK162 := Aside0.mk hs_; clear hs_; have hxs_ := blk_cell BK162.out; have hys_ := blk_frozen BK162.out; clear hk_ hb_) | (go_at_call 26; clear tk_; (with_reducible refine (compositorref14_in.calls a0_9 (-1) 10000 true _ A26.out).mono ?_); rintro e w' ⟨rfl, ⟨nd, rfl⟩⟩))
          as_aux_lemma =>
          have tk_ : True := trivial
          go_wp2_with (first | ((with_reducible refine gate_load (T := 24) rfl ?_); refine load_row_event (by first | rfl | (go_simp; done)) 24 _ rfl gb162 rfl 24 _ (0, 0) _ (by (with_reducible repeat (first | refine blk_drewN ?_ _ | refine blk_drew ?_ | refine blk_alloc ?_ _)); first | with_reducible exact BK162.out) hu24 rfl (by kernel_rfl) ?_) | ((with_reducible refine gate_store (t := 24) rfl ?_); refine store_row_event (base := w.heap.size) rfl rfl 24 _ _ rfl (g := gb162) (by rfl) (by rfl) (by (with_reducible repeat (first | refine blk_drewN ?_ _ | refine blk_drew ?_ | refine blk_alloc ?_ _)); exact BK162.out) (by kernel_rfl) (by rfl) (by rfl) GE162.out ?_; intro ws_ hs_ hk_ hb_; have n0_ := Aside0.mk (Below.trans (by repeat (first | (with_reducible first | exact HB.out | apply below_alloc | apply pw_below_drewN | apply below_drew1) | exact HB.out)) hb_); clear HB; have HB := n0_; clear n0_; clear BK162; have BK162 := Aside0.mk hs_; clear hs_; have hxs_ := blk_cell BK162.out; have hys_ := blk_frozen BK162.out; clear hk_ hb_) | (go_at_call 26; clear tk_; (with_reducible refine (compositorref14_in.calls a0_10 0 10000 false _ A28.out).mono ?_); rintro e w' ⟨rfl, ⟨nd, rfl⟩⟩))
          go_meet
          case rel => exact ⟨_, (false), (by first | rfl | (simp; done) | (simp [*]; done)), H', ⟨by have := HJ1.out; first | omega | exact Nat.le_refl _⟩, ⟨by (with_reducible repeat (first | refine blk_drewN ?_ _ | refine blk_drew ?_ | refine blk_alloc ?_ _)); exact BK162.out⟩, ⟨by repeat (first | (with_reducible first | exact HB.out | apply below_alloc | apply pw_below_drewN | apply below_drew1 | refine below_set ?_ GE162.out) | exact HB.out)⟩⟩
        ·replace c27 := Bool.eq_false_iff.mpr c27
         subst c27
         have H1 : (compositorref14_Check.j1 kj1 x3_1 false a0_0 a0_1 a0_2 a0_3 l0_4 a0_5 a0_6 a0_7 a0_8 a0_9 a0_10 a0_11 a0_12 a0_13 a0_14 a0_15 a0_16 a0_17 a0_18 a0_19 a0_20) = some r := by rw [if_neg (show ¬ (false = true) by decide)] at H; exact H
         clear H
         have H := H1
         clear H1
         have H' := Aside0.mk H
         clear H
         have hcz33_0 := blk_cell BK162.out
         have hfz33_0 := blk_frozen BK162.out
         have tk_ : True := trivial
         go_wp2_with (first | ((with_reducible refine gate_load (T := 24) rfl ?_); refine load_row_event (by first | rfl | (go_simp; done)) 24 _ rfl gb162 rfl 24 _ (0, 0) _ (by (with_reducible repeat (first | refine blk_drewN ?_ _ | refine blk_drew ?_ | refine blk_alloc ?_ _)); first | with_reducible exact BK162.out) hu24 rfl (by kernel_rfl) ?_) | ((with_reducible refine gate_store (t := 24) rfl ?_); refine store_row_event (base := w.heap.size) rfl rfl 24 _ _ rfl (g := gb162) (by rfl) (by rfl) (by (with_reducible repeat (first | refine blk_drewN ?_ _ | refine blk_drew ?_ | refine blk_alloc ?_ _)); exact BK162.out) (by kernel_rfl) (by rfl) (by rfl) GE162.out ?_; intro ws_ hs_ hk_ hb_; have n0_ := Aside0.mk (Below.trans (by repeat (first | (with_reducible first | exact HB.out | apply below_alloc | apply pw_below_drewN | apply below_drew1) | exact HB.out)) hb_); clear HB; have HB := n0_; clear n0_; clear BK162; have BK162 := Aside0.mk hs_; clear hs_; have hxs_ := blk_cell BK162.out; have hys_ := blk_frozen BK162.out; clear hk_ hb_) | (go_at_call 26; clear tk_; (with_reducible refine (compositorref14_in.calls a0_5 (wrap64 (1 - a0_0)) (wrap64 (a0_0 - 1)) true _ A18.out).mono ?_); rintro e w' ⟨rfl, ⟨nd, rfl⟩⟩))
         as_aux_lemma =>
         have tk_ : True := trivial
         go_wp2_with (first | ((with_reducible refine gate_load (T := 24) rfl ?_); refine load_row_event (by first | rfl | (go_simp; done)) 24 _ rfl gb162 rfl 24 _ (0, 0) _ (by (with_reducible repeat (first | refine blk_drewN ?_ _ | refine blk_drew ?_ | refine blk_alloc ?_ _)); first | with_reducible exact BK162.out) hu24 rfl (by kernel_rfl) ?_) | ((with_reducible refine gate_store (t := 24) rfl ?_); refine store_row_event (base := w.heap.size) rfl rfl 24 _ _ rfl (g := gb162) (by rfl) (by rfl) (by (with_reducible repeat (first | refine blk_drewN ?_ _ | refine blk_drew ?_ | refine blk_alloc ?_ _)); exact BK162.out) (by kernel_rfl) (by rfl) (by rfl) GE162.out ?_; intro ws_ hs_ hk_ hb_; have n0_ := Aside0.mk (Below.trans (by repeat (first | (with_reducible first | exact HB.out | apply below_alloc | apply pw_below_drewN | apply below_drew1) | exact HB.out)) hb_); clear HB; have HB := n0_; clear n0_; clear BK162; have BK162 := Aside0.mk hs_; clear hs_; have hxs_ := blk_cell BK162.out; have hys_ := blk_frozen BK162.out; clear hk_ hb_) | (go_at_call 26; clear tk_; (with_reducible refine (compositorref14_in.calls a0_6 (-100) 100 true _ A20.out).mono ?_); rintro e w' ⟨rfl, ⟨nd, rfl⟩⟩))
         as_aux_lemma =>
         have tk_ : True := trivial
         go_wp2_with (first | ((with_reducible refine gate_load (T := 24) rfl ?_); refine load_row_event (by first | rfl | (go_simp; done)) 24 _ rfl gb162 rfl 24 _ (0, 0) _ (by (with_reducible repeat (first | refine blk_drewN ?_ _ | refine blk_drew ?_ | refine blk_alloc ?_ _)); first | with_reducible exact BK162.out) hu24 rfl (by kernel_rfl) ?_) | ((with_reducible refine gate_store (t := 24) rfl ?_); refine store_row_event (base := w.heap.size) rfl rfl 24 _ _ rfl (g := gb162) (by rfl) (by rfl) (by (with_reducible repeat (first | refine blk_drewN ?_ _ | refine blk_drew ?_ | refine blk_alloc ?_ _)); exact BK162.out) (by kernel_rfl) (by rfl) (by rfl) GE162.out ?_; intro ws_ hs_ hk_ hb_; have n0_ := Aside0.mk (Below.trans (by repeat (first | (with_reducible first | exact HB.out | apply below_alloc | apply pw_below_drewN | apply below_drew1) | exact HB.out)) hb_); clear HB; have HB := n0_; clear n0_; clear BK162; have BK162 := Aside0.mk hs_; clear hs_; have hxs_ := blk_cell BK162.out; have hys_ := blk_frozen BK162.out; clear hk_ hb_) | (go_at_call 26; clear tk_; (with_reducible refine (compositorref14_in.calls a0_7 0 40 true _ A22.out).mono ?_); rintro e w' ⟨rfl, ⟨nd, rfl⟩⟩))
         as_aux_lemma =>
         have tk_ : True := trivial
         go_wp2_with (first | ((with_reducible refine gate_load (T := 24) rfl ?_); refine load_row_event (by first | rfl | (go_simp; done)) 24 _ rfl gb162 rfl 24 _ (0, 0) _ (by (with_reducible repeat (first | refine blk_drewN ?_ _ | refine blk_drew ?_ | refine blk_alloc ?_ _)); first | with_reducible exact BK162.out) hu24 rfl (by kernel_rfl) ?_) | ((with_reducible refine gate_store (t := 24) rfl ?_); refine store_row_event (base := w.heap.size) rfl rfl 24 _ _ rfl (g := gb162) (by rfl) (by rfl) (by (with_reducible repeat (first | refine blk_drewN ?_ _ | refine blk_drew ?_ | refine blk_alloc ?_ _)); exact BK162.out) (by kernel_rfl) (by rfl) (by rfl) GE162.out ?_; intro ws_ hs_ hk_ hb_; have n0_ := Aside0.mk (Below.trans (by repeat (first | (with_reducible first | exact HB.out | apply below_alloc | apply pw_below_drewN | apply below_drew1) | exact HB.out)) hb_); clear HB; have HB := n0_; clear n0_; clear BK162; have BK162 := Aside0.mk hs_; clear hs_; have hxs_ := blk_cell BK162.out; have hys_ := blk_frozen BK162.out; clear hk_ hb_) | (go_at_call 26; clear tk_; (with_reducible refine (compositorref14_in.calls a0_8 0 40 true _ A24.out).mono ?_); rintro e w' ⟨rfl, ⟨nd, rfl⟩⟩))
         as_aux_lemma =>
         have tk_ : True := trivial
         go_wp2_with (first | ((with_reducible refine gate_load (T := 24) rfl ?_); refine load_row_event (by first | rfl | (go_simp; done)) 24 _ rfl gb162 rfl 24 _ (0, 0) _ (by (with_reducible repeat (first | refine blk_drewN ?_ _ | refine blk_drew ?_ | refine blk_alloc ?_ _)); first | with_reducible exact BK162.out) hu24 rfl (by kernel_rfl) ?_) | ((with_reducible refine gate_store (t := 24) rfl ?_); refine store_row_event (base := w.heap.size) rfl rfl 24 _ _ rfl (g := gb162) (by rfl) (by rfl) (by (with_reducible repeat (first | refine blk_drewN ?_ _ | refine blk_drew ?_ | refine blk_alloc ?_ _)); exact BK162.out) (by kernel_rfl) (by rfl) (by rfl) GE162.out ?_; intro ws_ hs_ hk_ hb_; have n0_ := Aside0.mk (Below.trans (by repeat (first | (with_reducible first | exact HB.out | apply below_alloc | apply pw_below_drewN | apply below_drew1) | exact HB.out)) hb_); clear HB; have HB := n0_; clear n0_; clear BK162; have BK162 := Aside0.mk hs_; clear hs_; have hxs_ := blk_cell BK162.out; have hys_ := blk_frozen BK162.out; clear hk_ hb_) | (go_at_call 26; clear tk_; (with_reducible refine (compositorref14_in.calls a0_9 (-1) 10000 false _ A26.out).mono ?_); rintro e w' ⟨rfl, ⟨nd, rfl⟩⟩))
         go_meet
         case rel => exact ⟨_, (false), (by first | rfl | (simp; done) | (simp [*]; done)), H', ⟨by have := HJ1.out; first | omega | exact Nat.le_refl _⟩, ⟨by (with_reducible repeat (first | refine blk_drewN ?_ _ | refine blk_drew ?_ | refine blk_alloc ?_ _)); exact BK162.out⟩, ⟨by repeat (first | (with_reducible first | exact HB.out | apply below_alloc | apply pw_below_drewN | apply below_drew1 | refine below_set ?_ GE162.out) | exact HB.out)⟩⟩
       ·replace c25 := Bool.eq_false_iff.mpr c25
        subst c25
        have H1 : (compositorref14_Check.j1 kj1 x3_1 false a0_0 a0_1 a0_2 a0_3 l0_4 a0_5 a0_6 a0_7 a0_8 a0_9 a0_10 a0_11 a0_12 a0_13 a0_14 a0_15 a0_16 a0_17 a0_18 a0_19 a0_20) = some r := by rw [if_neg (show ¬ (false = true) by decide)] at H; exact H
        clear H
        have H := H1
        clear H1
        have H' := Aside0.mk H
        clear H
        have hcz34_0 := blk_cell BK162.out
        have hfz34_0 := blk_frozen BK162.out
        have tk_ : True := trivial
        go_wp2_with (first | ((with_reducible refine gate_load (T := 24) rfl ?_); refine load_row_event (by first | rfl | (go_simp; done)) 24 _ rfl gb162 rfl 24 _ (0, 0) _ (by (with_reducible repeat (first | refine blk_drewN ?_ _ | refine blk_drew ?_ | refine blk_alloc ?_ _)); first | with_reducible exact BK162.out) hu24 rfl (by kernel_rfl) ?_) | ((with_reducible refine gate_store (t := 24) rfl ?_); refine store_row_event (base := w.heap.size) rfl rfl 24 _ _ rfl (g := gb162) (by rfl) (by rfl) (by (with_reducible repeat (first | refine blk_drewN ?_ _ | refine blk_drew ?_ | refine blk_alloc ?_ _)); exact BK162.out) (by kernel_rfl) (by rfl) (by rfl) GE162.out ?_; intro ws_ hs_ hk_ hb_; have n0_ := Aside0.mk (Below.trans (by repeat (first | (with_reducible first | exact HB.out | apply below_alloc | apply pw_below_drewN | apply below_drew1) | exact HB.out)) hb_); clear HB; have HB := n0_; clear n0_; clear BK162; have BK162 := Aside0.mk hs_; clear hs_; have hxs_ := blk_cell BK162.out; have hys_ := blk_frozen BK162.out; clear hk_ hb_) | (go_at_call 26; clear tk_; (with_reducible refine (compositorref14_in.calls a0_5 (wrap64 (1 - a0_0)) (wrap64 (a0_0 - 1)) true _ A18.out).mono ?_); rintro e w' ⟨rfl, ⟨nd, rfl⟩⟩))
        as_aux_lemma =>
        have tk_ : True := trivial
        go_wp2_with (first | ((with_reducible refine gate_load (T := 24) rfl ?_); refine load_row_event (by first | rfl | (go_simp; done)) 24 _ rfl gb162 rfl 24 _ (0, 0) _ (by (with_reducible repeat (first | refine blk_drewN ?_ _ | refine blk_drew ?_ | refine blk_alloc ?_ _)); first | with_reducible exact BK162.out) hu24 rfl (by kernel_rfl) ?_) | ((with_reducible refine gate_store (t := 24) rfl ?_); refine store_row_event (base := w.heap.size) rfl rfl 24 _ _ rfl (g := gb162) (by rfl) (by rfl) (by (with_reducible repeat (first | refine blk_drewN ?_ _ | refine blk_drew ?_ | refine blk_alloc ?_ _)); exact BK162.out) (by kernel_rfl) (by rfl) (by rfl) GE162.out ?_; intro ws_ hs_ hk_ hb_; have n0_ := Aside0.mk (Below.trans (by repeat (first | (with_reducible first | exact HB.out | apply below_alloc | apply pw_below_drewN | apply below_drew1) | exact HB.out)) hb_); clear HB; have HB := n0_; clear n0_; clear BK162; have BK162 := Aside0.mk hs_; clear hs_; have hxs_ := blk_cell BK162.out; have hys_ := blk_frozen BK162.out; clear hk_ hb_) | (go_at_call 26; clear tk_; (with_reducible refine (compositorref14_in.calls a0_6 (-100) 100 true _ A20.out).mono ?_); rintro e w' ⟨rfl, ⟨nd, rfl⟩⟩))
        as_aux_lemma =>
        have tk_ : True := trivial
        go_wp2_with (first | ((with_reducible refine gate_load (T := 24) rfl ?_); refine load_row_event (by first | rfl | (go_simp; done)) 24 _ rfl gb162 rfl 24 _ (0, 0) _ (by (with_reducible repeat (first | refine blk_drewN ?_ _ | refine blk_drew ?_ | refine blk_alloc ?_ _)); first | with_reducible exact BK162.out) hu24 rfl (by kernel_rfl) ?_) | ((with_reducible refine gate_store (t := 24) rfl ?_); refine store_row_event (base := w.heap.size) rfl rfl 24 _ _ rfl (g := gb162) (by rfl) (by rfl) (by (with_reducible repeat (first | refine blk_drewN ?_ _ | refine blk_drew ?_ | refine blk_alloc ?_ _)); exact BK162.out) (by kernel_rfl) (by rfl) (by rfl) GE162.out ?_; intro ws_ hs_ hk_ hb_; have n0_ := Aside0.mk (Below.trans (by repeat (first | (with_reducible first | exact HB.out | apply below_alloc | apply pw_below_drewN | apply below_drew1) | exact HB.out)) hb_); clear HB; have HB := n0_; clear n0_; clear BK162; have BK162 := Aside0.mk hs_; clear hs_; have hxs_ := blk_cell BK162.out; have hys_ := blk_frozen BK162.out; clear hk_ hb_) | (go_at_call 26; clear tk_; (with_reducible refine (compositorref14_in.calls a0_7 0 40 true _ A22.out).mono ?_); rintro e w' ⟨rfl, ⟨nd, rfl⟩⟩))
        as_aux_lemma =>
        have tk_ : True := trivial
        go_wp2_with (first | ((with_reducible refine gate_load (T := 24) rfl ?_); refine load_row_event (by first | rfl | (go_simp; done)) 24 _ rfl gb162 rfl 24 _ (0, 0) _ (by (with_reducible repeat (first | refine blk_drewN ?_ _ | refine blk_drew ?_ | refine blk_alloc ?_ _)); first | with_reducible exact BK162.out) hu24 rfl (by kernel_rfl) ?_) | ((with_reducible refine gate_store (t := 24) rfl ?_); refine store_row_event (base := w.heap.size) rfl rfl 24 _ _ rfl (g := gb162) (by rfl) (by rfl) (by (with_reducible repeat (first | refine blk_drewN ?_ _ | refine blk_drew ?_ | refine blk_alloc ?_ _)); exact BK162.out) (by kernel_rfl) (by rfl) (by rfl) GE162.out ?_; intro ws_ hs_ hk_ hb_; have n0_ := Aside0.mk (Below.trans (by repeat (first | (with_reducible first | exact HB.out | apply below_alloc | apply pw_below_drewN | apply below_drew1) | exact HB.out)) hb_); clear HB; have HB := n0_; clear n0_; clear BK162; have BK162 := Aside0.mk hs_; clear hs_; have hxs_ := blk_cell BK162.out; have hys_ := blk_frozen BK162.out; clear hk_ hb_) | (go_at_call 26; clear tk_; (with_reducible refine (compositorref14_in.calls a0_8 0 40 false _ A24.out).mono ?_); rintro e w' ⟨rfl, ⟨nd, rfl⟩⟩))
        go_meet
        case rel => exact ⟨_, (false), (by first | rfl | (simp; done) | (simp [*]; done)), H', ⟨by have := HJ1.out; first | omega | exact Nat.le_refl _⟩, ⟨by (with_reducible repeat (first | refine blk_drewN ?_ _ | refine blk_drew ?_ | refine blk_alloc ?_ _)); exact BK162.out⟩, ⟨by repeat (first | (with_reducible first | exact HB.out | apply below_alloc | apply pw_below_drewN | apply below_drew1 | refine below_set ?_ GE162.out) | exact HB.out)⟩⟩
      ·replace c23 := Bool.eq_false_iff.mpr c23
       subst c23
       have H1 : (compositorref14_Check.j1 kj1 x3_1 false a0_0 a0_1 a0_2 a0_3 l0_4 a0_5 a0_6 a0_7 a0_8 a0_9 a0_10 a0_11 a0_12 a0_13 a0_14 a0_15 a0_16 a0_17 a0_18 a0_19 a0_20) = some r := by rw [if_neg (show ¬ (false = true) by decide)] at H; exact H
       clear H
       have H := H1
       clear H1
       have H' := Aside0.mk H
       clear H
       have hcz35_0 := blk_cell BK162.out
       have hfz35_0 := blk_frozen BK162.out
       have tk_ : True := trivial
       go_wp2_with (first | ((with_reducible refine gate_load (T := 24) rfl ?_); refine load_row_event (by first | rfl | (go_simp; done)) 24 _ rfl gb162 rfl 24 _ (0, 0) _ (by (with_reducible repeat (first | refine blk_drewN ?_ _ | refine blk_drew ?_ | refine blk_alloc ?_ _)); first | with_reducible exact BK162.out) hu24 rfl (by kernel_rfl) ?_) | ((with_reducible refine gate_store (t := 24) rfl ?_); refine store_row_event (base := w.heap.size) rfl rfl 24 _ _ rfl (g := gb162) (by rfl) (by rfl) (by (with_reducible repeat (first | refine blk_drewN ?_ _ | refine blk_drew ?_ | refine blk_alloc ?_ _)); exact BK162.out) (by kernel_rfl) (by rfl) (by rfl) GE162.out ?_; intro ws_ hs_ hk_ hb_; have n0_ := Aside0.mk (Below.trans (by repeat (first | (with_reducible first | exact HB.out | apply below_alloc | apply pw_below_drewN | apply below_drew1) | exact HB.out)) hb_); clear HB; have HB := n0_; clear n0_; clear BK162; have BK162 := Aside0.mk hs_; clear hs_; have hxs_ := blk_cell BK162.out; have hys_ := blk_frozen BK162.out; clear hk_ hb_) | (go_at_call 26; clear tk_; (with_reducible refine (compositorref14_in.calls a0_5 (wrap64 (1 - a0_0)) (wrap64 (a0_0 - 1)) true _ A18.out).mono ?_); rintro e w' ⟨rfl, ⟨nd, rfl⟩⟩))
       as_aux_lemma =>
       have tk_ : True := trivial
       go_wp2_with (first | ((with_reducible refine gate_load (T := 24) rfl ?_); refine load_row_event (by first | rfl | (go_simp; done)) 24 _ rfl gb162 rfl 24 _ (0, 0) _ (by (with_reducible repeat (first | refine blk_drewN ?_ _ | refine blk_drew ?_ | refine blk_alloc ?_ _)); first | with_reducible exact BK162.out) hu24 rfl (by kernel_rfl) ?_) | ((with_reducible refine gate_store (t := 24) rfl ?_); refine store_row_event (base := w.heap.size) rfl rfl 24 _ _ rfl (g := gb162) (by rfl) (by rfl) (by (with_reducible repeat (first | refine blk_drewN ?_ _ | refine blk_drew ?_ | refine blk_alloc ?_ _)); exact BK162.out) (by kernel_rfl) (by rfl) (by rfl) GE162.out ?_; intro ws_ hs_ hk_ hb_; have n0_ := Aside0.mk (Below.trans (by repeat (first | (with_reducible first | exact HB.out | apply below_alloc | apply pw_below_drewN | apply below_drew1) | exact HB.out)) hb_); clear HB; have HB := n0_; clear n0_; clear BK162; have BK162 := Aside0.mk hs_; clear hs_; have hxs_ := blk_cell BK162.out; have hys_ := blk_frozen BK162.out; clear hk_ hb_) | (go_at_call 26; clear tk_; (with_reducible refine (compositorref14_in.calls a0_6 (-100) 100 true _ A20.out).mono ?_); rintro e w' ⟨rfl, ⟨nd, rfl⟩⟩))
       as_aux_lemma =>
       have tk_ : True := trivial
       go_wp2_with (first | ((with_reducible refine gate_load (T := 24) rfl ?_); refine load_row_event (by first | rfl | (go_simp; done)) 24 _ rfl gb162 rfl 24 _ (0, 0) _ (by (with_reducible repeat (first | refine blk_drewN ?_ _ | refine blk_drew ?_ | refine blk_alloc ?_ _)); first | with_reducible exact BK162.out) hu24 rfl (by kernel_rfl) ?_) | ((with_reducible refine gate_store (t := 24) rfl ?_); refine store_row_event (base := w.heap.size) rfl rfl 24 _ _ rfl (g := gb162) (by rfl) (by rfl) (by (with_reducible repeat (first | refine blk_drewN ?_ _ | refine blk_drew ?_ | refine blk_alloc ?_ _)); exact BK162.out) (by kernel_rfl) (by rfl) (by rfl) GE162.out ?_; intro ws_ hs_ hk_ hb_; have n0_ := Aside0.mk (Below.trans (by repeat (first | (with_reducible first | exact HB.out | apply below_alloc | apply pw_below_drewN | apply below_drew1) | exact HB.out)) hb_); clear HB; have HB := n0_; clear n0_; clear BK162; have BK162 := Aside0.mk hs_; clear hs_; have hxs_ := blk_cell BK162.out; have hys_ := blk_frozen BK162.out; clear hk_ hb_) | (go_at_call 26; clear tk_; (with_reducible refine (compositorref14_in.calls a0_7 0 40 false _ A22.out).mono ?_); rintro e w' ⟨rfl, ⟨nd, rfl⟩⟩))
       go_meet
       case rel => exact ⟨_, (false), (by first | rfl | (simp; done) | (simp [*]; done)), H', ⟨by have := HJ1.out; first | omega | exact Nat.le_refl _⟩, ⟨by (with_reducible repeat (first | refine blk_drewN ?_ _ | refine blk_drew ?_ | refine blk_alloc ?_ _)); exact BK162.out⟩, ⟨by repeat (first | (with_reducible first | exact HB.out | apply below_alloc | apply pw_below_drewN | apply below_drew1 | refine below_set ?_ GE162.out) | exact HB.out)⟩⟩
     ·replace c21 := Bool.eq_false_iff.mpr c21
      subst c21
      have H1 : (compositorref14_Check.j1 kj1 x3_1 false a0_0 a0_1 a0_2 a0_3 l0_4 a0_5 a0_6 a0_7 a0_8 a0_9 a0_10 a0_11 a0_12 a0_13 a0_14 a0_15 a0_16 a0_17 a0_18 a0_19 a0_20) = some r := by rw [if_neg (show ¬ (false = true) by decide)] at H; exact H
      clear H
      have H := H1
      clear H1
      have H' := Aside0.mk H
      clear H
      have hcz36_0 := blk_cell BK162.out
      have hfz36_0 := blk_frozen BK162.out
      have tk_ : True := trivial
      go_wp2_with (first | ((with_reducible refine gate_load (T := 24) rfl ?_); refine load_row_event (by first | rfl | (go_simp; done)) 24 _ rfl gb162 rfl 24 _ (0, 0) _ (by (with_reducible repeat (first | refine blk_drewN ?_ _ | refine blk_drew ?_ | refine blk_alloc ?_ _)); first | with_reducible exact BK162.out) hu24 rfl (by kernel_rfl) ?_) | ((with_reducible refine gate_store (t := 24) rfl ?_); refine store_row_event (base := w.heap.size) rfl rfl 24 _ _ rfl (g := gb162) (by rfl) (by rfl) (by (with_reducible repeat (first | refine blk_drewN ?_ _ | refine blk_drew ?_ | refine blk_alloc ?_ _)); exact BK162.out) (by kernel_rfl) (by rfl) (by rfl) GE162.out ?_; intro ws_ hs_ hk_ hb_; have n0_ := Aside0.mk (Below.trans (by repeat (first | (with_reducible first | exact HB.out | apply below_alloc | apply pw_below_drewN | apply below_drew1) | exact HB.out)) hb_); clear HB; have HB := n0_; clear n0_; clear BK162; have BK162 := Aside0.mk hs_; clear hs_; have hxs_ := blk_cell BK162.out; have hys_ := blk_frozen BK162.out; clear hk_ hb_) | (go_at_call 26; clear tk_; (with_reducible refine (compositorref14_in.calls a0_5 (wrap64 (1 - a0_0)) (wrap64 (a0_0 - 1)) true _ A18.out).mono ?_); rintro e w' ⟨rfl, ⟨nd, rfl⟩⟩))
      as_aux_lemma =>
      have tk_ : True := trivial
      go_wp2_with (first | ((with_reducible refine gate_load (T := 24) rfl ?_); refine load_row_event (by first | rfl | (go_simp; done)) 24 _ rfl gb162 rfl 24 _ (0, 0) _ (by (with_reducible repeat (first | refine blk_drewN ?_ _ | refine blk_drew ?_ | refine blk_alloc ?_ _)); first | with_reducible exact BK162.out) hu24 rfl (by kernel_rfl) ?_) | ((with_reducible refine gate_store (t := 24) rfl ?_); refine store_row_event (base := w.heap.size) rfl rfl 24 _ _ rfl (g := gb162) (by rfl) (by rfl) (by (with_reducible repeat (first | refine blk_drewN ?_ _ | refine blk_drew ?_ | refine blk_alloc ?_ _)); exact BK162.out) (by kernel_rfl) (by rfl) (by rfl) GE162.out ?_; intro ws_ hs_ hk_ hb_; have n0_ := Aside0.mk (Below.trans (by repeat (first | (with_reducible first | exact HB.out | apply below_alloc | apply pw_below_drewN | apply below_drew1) | exact HB.out)) hb_); clear HB; have HB := n0_; clear n0_; clear BK162; have BK162 := Aside0.mk hs_; clear hs_; have hxs_ := blk_cell BK162.out; have hys_ := blk_frozen BK162.out; clear hk_ hb_) | (go_at_call 26; clear tk_; (with_reducible refine (compositorref14_in.calls a0_6 (-100) 100 false _ A20.out).mono ?_); rintro e w' ⟨rfl, ⟨nd, rfl⟩⟩))
      go_meet
      case rel => exact ⟨_, (false), (by first | rfl | (simp; done) | (simp [*]; done)), H', ⟨by have := HJ1.out; first | omega | exact Nat.le_refl _⟩, ⟨by (with_reducible repeat (first | refine blk_drewN ?_ _ | refine blk_drew ?_ | refine blk_alloc ?_ _)); exact BK162.out⟩, ⟨by repeat (first | (with_reducible first | exact HB.out | apply below_alloc | apply pw_below_drewN | apply below_drew1 | refine below_set ?_ GE162.out) | exact HB.out)⟩⟩
    ·replace c19 := Bool.eq_false_iff.mpr c19
     subst c19
     have H1 : (compositorref14_Check.j1 kj1 x3_1 false a0_0 a0_1 a0_2 a0_3 l0_4 a0_5 a0_6 a0_7 a0_8 a0_9 a0_10 a0_11 a0_12 a0_13 a0_14 a0_15 a0_16 a0_17 a0_18 a0_19 a0_20) = some r := by rw [if_neg (show ¬ (false = true) by decide)] at H; exact H
     clear H
     have H := H1
     clear H1
     have H' := Aside0.mk H
     clear H
     have hcz37_0 := blk_cell BK162.out
     have hfz37_0 := blk_frozen BK162.out
     go_wp2_with (first | ((with_reducible refine gate_load (T := 24) rfl ?_); refine load_row_event (by first | rfl | (go_simp; done)) 24 _ rfl gb162 rfl 24 _ (0, 0) _ (by (with_reducible repeat (first | refine blk_drewN ?_ _ | refine blk_drew ?_ | refine blk_alloc ?_ _)); first | with_reducible exact BK162.out) hu24 rfl (by kernel_rfl) ?_) | ((with_reducible refine gate_store (t := 24) rfl ?_); refine store_row_event (base := w.heap.size) rfl rfl 24 _ _ rfl (g := gb162) (by rfl) (by rfl) (by (with_reducible repeat (first | refine blk_drewN ?_ _ | refine blk_drew ?_ | refine blk_alloc ?_ _)); exact BK162.out) (by kernel_rfl) (by rfl) (by rfl) GE162.out ?_; intro ws_ hs_ hk_ hb_; have n0_ := Aside0.mk (Below.trans (by repeat (first | (with_reducible first | exact HB.out | apply below_alloc | apply pw_below_drewN | apply below_drew1) | exact HB.out)) hb_); clear HB; have HB := n0_; clear n0_; clear BK162; have BK162 := Aside0.mk hs_; clear hs_; have hxs_ := blk_cell BK162.out; have hys_ := blk_frozen BK162.out; clear hk_ hb_) | ((with_reducible refine gate_callee (f := 26) rfl ?_); refine goesL_ (some 40) rfl rfl Try.func26 (by kernel_rfl) rfl #[.int .i64 a0_5, .int .i64 (wrap64 (1 - a0_0)), .int .i64 (wrap64 (a0_0 - 1))] rfl (by (try simp only [List.map_toArray, List.map_cons, List.map_nil]); first | done | rfl | (simp only [List.length_drop, List.length_take]; rfl)) ?_; (with_reducible refine (compositorref14_in.calls a0_5 (wrap64 (1 - a0_0)) (wrap64 (a0_0 - 1)) false _ A18.out).mono ?_); rintro e w' ⟨rfl, ⟨nd, rfl⟩⟩; refine ⟨_, rfl, ?_⟩))
     go_meet
     case rel => exact ⟨_, (false), (by first | rfl | (simp; done) | (simp [*]; done)), H', ⟨by have := HJ1.out; first | omega | exact Nat.le_refl _⟩, ⟨by (with_reducible repeat (first | refine blk_drewN ?_ _ | refine blk_drew ?_ | refine blk_alloc ?_ _)); exact BK162.out⟩, ⟨by repeat (first | (with_reducible first | exact HB.out | apply below_alloc | apply pw_below_drewN | apply below_drew1 | refine below_set ?_ GE162.out) | exact HB.out)⟩⟩
   case rest => as_aux_lemma =>
    clear HC17
    try clear c1
    try clear c2
    try clear p2
    try clear p6
    try clear c19
    try clear c21
    try clear c23
    try clear c25
    try clear c26
    try clear c27
    try clear c29
    try clear hcz14_9
    try clear hcz15_0
    try clear hcz15_1
    try clear hcz15_10
    try clear hcz15_11
    try clear hcz15_12
    try clear hcz15_13
    try clear hcz15_14
    try clear hcz15_15
    try clear hcz15_16
    try clear hcz15_17
    try clear hcz15_18
    try clear hcz15_19
    try clear hcz15_2
    try clear hcz15_20
    try clear hcz15_3
    try clear hcz15_4
    try clear hcz15_5
    try clear hcz15_6
    try clear hcz15_7
    try clear hcz15_8
    try clear hcz15_9
    try clear hcz16_0
    try clear hcz16_1
    try clear hcz16_10
    try clear hcz16_11
    try clear hcz16_12
    try clear hcz16_13
    try clear hcz16_14
    try clear hcz16_15
    try clear hcz16_16
    try clear hcz16_17
    try clear hcz16_18
    try clear hcz16_19
    try clear hcz16_2
    try clear hcz16_20
    try clear hcz16_3
    try clear hcz16_4
    try clear hcz16_5
    try clear hcz16_6
    try clear hcz16_7
    try clear hcz16_8
    try clear hcz16_9
    try clear hcz31_0
    try clear hcz31_1
    try clear hcz31_10
    try clear hcz31_11
    try clear hcz31_12
    try clear hcz31_13
    try clear hcz31_14
    try clear hcz31_15
    try clear hcz31_16
    try clear hcz31_17
    try clear hcz31_18
    try clear hcz31_19
    try clear hcz31_2
    try clear hcz31_20
    try clear hcz31_3
    try clear hcz31_4
    try clear hcz31_5
    try clear hcz31_6
    try clear hcz31_7
    try clear hcz31_8
    try clear hcz31_9
    try clear hcz32_0
    try clear hcz32_1
    try clear hcz32_10
    try clear hcz32_11
    try clear hcz32_12
    try clear hcz32_13
    try clear hcz32_14
    try clear hcz32_15
    try clear hcz32_16
    try clear hcz32_17
    try clear hcz32_18
    try clear hcz32_19
    try clear hcz32_2
    try clear hcz32_20
    try clear hcz32_3
    try clear hcz32_4
    try clear hcz32_5
    try clear hcz32_6
    try clear hcz32_7
    try clear hcz32_8
    try clear hcz32_9
    try clear hcz33_0
    try clear hcz33_1
    try clear hcz33_10
    try clear hcz33_11
    try clear hcz33_12
    try clear hcz33_13
    try clear hcz33_14
    try clear hcz33_15
    try clear hcz33_16
    try clear hcz33_17
    try clear hcz33_18
    try clear hcz33_19
    try clear hcz33_2
    try clear hcz33_20
    try clear hcz33_3
    try clear hcz33_4
    try clear hcz33_5
    try clear hcz33_6
    try clear hcz33_7
    try clear hcz33_8
    try clear hcz33_9
    try clear hcz34_0
    try clear hcz34_1
    try clear hcz34_10
    try clear hcz34_11
    try clear hcz34_12
    try clear hcz34_13
    try clear hcz34_14
    try clear hcz34_15
    try clear hcz34_16
    try clear hcz34_17
    try clear hcz34_18
    try clear hcz34_19
    try clear hcz34_2
    try clear hcz34_20
    try clear hcz34_3
    try clear hcz34_4
    try clear hcz34_5
    try clear hcz34_6
    try clear hcz34_7
    try clear hcz34_8
    try clear hcz34_9
    try clear hcz35_0
    try clear hcz35_1
    try clear hcz35_10
    try clear hcz35_11
    try clear hcz35_12
    try clear hcz35_13
    try clear hcz35_14
    try clear hcz35_15
    try clear hcz35_16
    try clear hcz35_17
    try clear hcz35_18
    try clear hcz35_19
    try clear hcz35_2
    try clear hcz35_20
    try clear hcz35_3
    try clear hcz35_4
    try clear hcz35_5
    try clear hcz35_6
    try clear hcz35_7
    try clear hcz35_8
    try clear hcz35_9
    try clear hcz36_0
    try clear hcz36_1
    try clear hcz36_10
    try clear hcz36_11
    try clear hcz36_12
    try clear hcz36_13
    try clear hcz36_14
    try clear hcz36_15
    try clear hcz36_16
    try clear hcz36_17
    try clear hcz36_18
    try clear hcz36_19
    try clear hcz36_2
    try clear hcz36_20
    try clear hcz36_3
    try clear hcz36_4
    try clear hcz36_5
    try clear hcz36_6
    try clear hcz36_7
    try clear hcz36_8
    try clear hcz36_9
    try clear hcz37_0
    try clear hcz37_1
    try clear hcz37_10
    try clear hcz37_11
    try clear hcz37_12
    try clear hcz37_13
    try clear hcz37_14
    try clear hcz37_15
    try clear hcz37_16
    try clear hcz37_17
    try clear hcz37_18
    try clear hcz37_19
    try clear hcz37_2
    try clear hcz37_20
    try clear hcz37_3
    try clear hcz37_4
    try clear hcz37_5
    try clear hcz37_6
    try clear hcz37_7
    try clear hcz37_8
    try clear hcz37_9
    try clear hfz12_0
    try clear hfz12_1
    try clear hfz12_10
    try clear hfz12_11
    try clear hfz12_12
    try clear hfz12_13
    try clear hfz12_14
    try clear hfz12_15
    try clear hfz12_16
    try clear hfz12_17
    try clear hfz12_18
    try clear hfz12_19
    try clear hfz12_2
    try clear hfz12_20
    try clear hfz12_3
    try clear hfz12_4
    try clear hfz12_5
    try clear hfz12_6
    try clear hfz12_7
    try clear hfz12_8
    try clear hfz12_9
    try clear hfz13_0
    try clear hfz13_1
    try clear hfz13_10
    try clear hfz13_11
    try clear hfz13_12
    try clear hfz13_13
    try clear hfz13_14
    try clear hfz13_15
    try clear hfz13_16
    try clear hfz13_17
    try clear hfz13_18
    try clear hfz13_19
    try clear hfz13_2
    try clear hfz13_20
    try clear hfz13_3
    try clear hfz13_4
    try clear hfz13_5
    try clear hfz13_6
    try clear hfz13_7
    try clear hfz13_8
    try clear hfz13_9
    try clear hfz14_0
    try clear hfz14_1
    try clear hfz14_10
    try clear hfz14_11
    try clear hfz14_12
    try clear hfz14_13
    try clear hfz14_14
    try clear hfz14_15
    try clear hfz14_16
    try clear hfz14_17
    try clear hfz14_18
    try clear hfz14_19
    try clear hfz14_2
    try clear hfz14_20
    try clear hfz14_3
    try clear hfz14_4
    try clear hfz14_5
    try clear hfz14_6
    try clear hfz14_7
    try clear hfz14_8
    try clear hfz14_9
    try clear hfz15_0
    try clear hfz15_1
    try clear hfz15_10
    try clear hfz15_11
    try clear hfz15_12
    try clear hfz15_13
    try clear hfz15_14
    try clear hfz15_15
    try clear hfz15_16
    try clear hfz15_17
    try clear hfz15_18
    try clear hfz15_19
    try clear hfz15_2
    try clear hfz15_20
    try clear hfz15_3
    try clear hfz15_4
    try clear hfz15_5
    try clear hfz15_6
    try clear hfz15_7
    try clear hfz15_8
    try clear hfz15_9
    try clear hfz16_0
    try clear hfz16_1
    try clear hfz16_10
    try clear hfz16_11
    try clear hfz16_12
    try clear hfz16_13
    try clear hfz16_14
    try clear hfz16_15
    try clear hfz16_16
    try clear hfz16_17
    try clear hfz16_18
    try clear hfz16_19
    try clear hfz16_2
    try clear hfz16_20
    try clear hfz16_3
    try clear hfz16_4
    try clear hfz16_5
    try clear hfz16_6
    try clear hfz16_7
    try clear hfz16_8
    try clear hfz16_9
    try clear hfz31_0
    try clear hfz31_1
    try clear hfz31_10
    try clear hfz31_11
    try clear hfz31_12
    try clear hfz31_13
    try clear hfz31_14
    try clear hfz31_15
    try clear hfz31_16
    try clear hfz31_17
    try clear hfz31_18
    try clear hfz31_19
    try clear hfz31_2
    try clear hfz31_20
    try clear hfz31_3
    try clear hfz31_4
    try clear hfz31_5
    try clear hfz31_6
    try clear hfz31_7
    try clear hfz31_8
    try clear hfz31_9
    try clear hfz32_0
    try clear hfz32_1
    try clear hfz32_10
    try clear hfz32_11
    try clear hfz32_12
    try clear hfz32_13
    try clear hfz32_14
    try clear hfz32_15
    try clear hfz32_16
    try clear hfz32_17
    try clear hfz32_18
    try clear hfz32_19
    try clear hfz32_2
    try clear hfz32_20
    try clear hfz32_3
    try clear hfz32_4
    try clear hfz32_5
    try clear hfz32_6
    try clear hfz32_7
    try clear hfz32_8
    try clear hfz32_9
    try clear hfz33_0
    try clear hfz33_1
    try clear hfz33_10
    try clear hfz33_11
    try clear hfz33_12
    try clear hfz33_13
    try clear hfz33_14
    try clear hfz33_15
    try clear hfz33_16
    try clear hfz33_17
    try clear hfz33_18
    try clear hfz33_19
    try clear hfz33_2
    try clear hfz33_20
    try clear hfz33_3
    try clear hfz33_4
    try clear hfz33_5
    try clear hfz33_6
    try clear hfz33_7
    try clear hfz33_8
    try clear hfz33_9
    try clear hfz34_0
    try clear hfz34_1
    try clear hfz34_10
    try clear hfz34_11
    try clear hfz34_12
    try clear hfz34_13
    try clear hfz34_14
    try clear hfz34_15
    try clear hfz34_16
    try clear hfz34_17
    try clear hfz34_18
    try clear hfz34_19
    try clear hfz34_2
    try clear hfz34_20
    try clear hfz34_3
    try clear hfz34_4
    try clear hfz34_5
    try clear hfz34_6
    try clear hfz34_7
    try clear hfz34_8
    try clear hfz34_9
    try clear hfz35_0
    try clear hfz35_1
    try clear hfz35_10
    try clear hfz35_11
    try clear hfz35_12
    try clear hfz35_13
    try clear hfz35_14
    try clear hfz35_15
    try clear hfz35_16
    try clear hfz35_17
    try clear hfz35_18
    try clear hfz35_19
    try clear hfz35_2
    try clear hfz35_20
    try clear hfz35_3
    try clear hfz35_4
    try clear hfz35_5
    try clear hfz35_6
    try clear hfz35_7
    try clear hfz35_8
    try clear hfz35_9
    try clear hfz36_0
    try clear hfz36_1
    try clear hfz36_10
    try clear hfz36_11
    try clear hfz36_12
    try clear hfz36_13
    try clear hfz36_14
    try clear hfz36_15
    try clear hfz36_16
    try clear hfz36_17
    try clear hfz36_18
    try clear hfz36_19
    try clear hfz36_2
    try clear hfz36_20
    try clear hfz36_3
    try clear hfz36_4
    try clear hfz36_5
    try clear hfz36_6
    try clear hfz36_7
    try clear hfz36_8
    try clear hfz36_9
    try clear hfz37_0
    try clear hfz37_1
    try clear hfz37_10
    try clear hfz37_11
    try clear hfz37_12
    try clear hfz37_13
    try clear hfz37_14
    try clear hfz37_15
    try clear hfz37_16
    try clear hfz37_17
    try clear hfz37_18
    try clear hfz37_19
    try clear hfz37_2
    try clear hfz37_20
    try clear hfz37_3
    try clear hfz37_4
    try clear hfz37_5
    try clear hfz37_6
    try clear hfz37_7
    try clear hfz37_8
    try clear hfz37_9
    obtain ⟨kq, x4_16, rfl, HA, HJ16, BK162, HB⟩ := hcut
    cases kq with
    | zero => exact absurd HA.out (by simp [compositorref14_Check.j1])
    | succ kj16 =>
     have H := HA.out
     clear HA
     simp only [compositorref14_Check.j1] at H
     have HC38 := Aside0.mk H
     clear H
     go_upto_region 3 with (fail)
     go_cut [5] (fun v5 wc => ∃ (kq : Nat) (x5_37 : Bool), v5 = .bool x5_37 ∧ Aside0 (compositorref14_Check.j2 kq x3_1 x4_16 x5_37 a0_0 a0_1 a0_2 a0_3 l0_4 a0_5 a0_6 a0_7 a0_8 a0_9 a0_10 a0_11 a0_12 a0_13 a0_14 a0_15 a0_16 a0_17 a0_18 a0_19 a0_20 = some r) ∧ Aside0 (kq ≤ kj16) ∧ Aside0 (wc.heap[gb162]? = some (.cells #[.int .i64 a0_0, .int .i64 a0_1, .int .i64 a0_2, .int .i64 a0_3, (.slice A0_4 l0_4.length c0_4), .int .i64 a0_5, .int .i64 a0_6, .int .i64 a0_7, .int .i64 a0_8, .int .i64 a0_9, .int .i64 a0_10, .int .i64 a0_11, .int .i64 a0_12, .int .i64 a0_13, .int .i64 a0_14, .int .i64 a0_15, .int .i64 a0_16, .int .i64 a0_17, .int .i64 a0_18, .int .i64 a0_19, .int .i64 a0_20] 24 (0, 0))) ∧ Aside0 (Below w.heap.size w wc))
     case first => as_aux_lemma =>
      have H := HC38.out
      clear HC38
      replace H := Option.bind_eq_some_iff.mp H
      obtain ⟨t174, A390, H⟩ := H
      replace H : (if t174 = true then ((compositorref14_in.f a0_13 (-1000) 1000).bind fun t175 => (if t175 = true then ((compositorref14_in.f a0_14 (-1000) 1000).bind fun t176 => (if t176 = true then ((compositorref14_in.f a0_20 (-5) 5).bind fun t177 => (compositorref14_Check.j2 kj16 x3_1 x4_16 t177 a0_0 a0_1 a0_2 a0_3 l0_4 a0_5 a0_6 a0_7 a0_8 a0_9 a0_10 a0_11 a0_12 a0_13 a0_14 a0_15 a0_16 a0_17 a0_18 a0_19 a0_20)) else (compositorref14_Check.j2 kj16 x3_1 x4_16 false a0_0 a0_1 a0_2 a0_3 l0_4 a0_5 a0_6 a0_7 a0_8 a0_9 a0_10 a0_11 a0_12 a0_13 a0_14 a0_15 a0_16 a0_17 a0_18 a0_19 a0_20))) else (compositorref14_Check.j2 kj16 x3_1 x4_16 false a0_0 a0_1 a0_2 a0_3 l0_4 a0_5 a0_6 a0_7 a0_8 a0_9 a0_10 a0_11 a0_12 a0_13 a0_14 a0_15 a0_16 a0_17 a0_18 a0_19 a0_20))) else (compositorref14_Check.j2 kj16 x3_1 x4_16 false a0_0 a0_1 a0_2 a0_3 l0_4 a0_5 a0_6 a0_7 a0_8 a0_9 a0_10 a0_11 a0_12 a0_13 a0_14 a0_15 a0_16 a0_17 a0_18 a0_19 a0_20)) = some r := H
      have A39 := Aside0.mk A390
      clear A390
      by_cases c40 : t174 = true
      ·subst c40
       have H1 : ((compositorref14_in.f a0_13 (-1000) 1000).bind fun t175 => (if t175 = true then ((compositorref14_in.f a0_14 (-1000) 1000).bind fun t176 => (if t176 = true then ((compositorref14_in.f a0_20 (-5) 5).bind fun t177 => (compositorref14_Check.j2 kj16 x3_1 x4_16 t177 a0_0 a0_1 a0_2 a0_3 l0_4 a0_5 a0_6 a0_7 a0_8 a0_9 a0_10 a0_11 a0_12 a0_13 a0_14 a0_15 a0_16 a0_17 a0_18 a0_19 a0_20)) else (compositorref14_Check.j2 kj16 x3_1 x4_16 false a0_0 a0_1 a0_2 a0_3 l0_4 a0_5 a0_6 a0_7 a0_8 a0_9 a0_10 a0_11 a0_12 a0_13 a0_14 a0_15 a0_16 a0_17 a0_18 a0_19 a0_20))) else (compositorref14_Check.j2 kj16 x3_1 x4_16 false a0_0 a0_1 a0_2 a0_3 l0_4 a0_5 a0_6 a0_7 a0_8 a0_9 a0_10 a0_11 a0_12 a0_13 a0_14 a0_15 a0_16 a0_17 a0_18 a0_19 a0_20))) = some r := by rw [if_pos rfl] at H; exact H
       clear H
       have H := H1
       clear H1
       replace H := Option.bind_eq_some_iff.mp H
       obtain ⟨t175, A410, H⟩ := H
       replace H : (if t175 = true then ((compositorref14_in.f a0_14 (-1000) 1000).bind fun t176 => (if t176 = true then ((compositorref14_in.f a0_20 (-5) 5).bind fun t177 => (compositorref14_Check.j2 kj16 x3_1 x4_16 t177 a0_0 a0_1 a0_2 a0_3 l0_4 a0_5 a0_6 a0_7 a0_8 a0_9 a0_10 a0_11 a0_12 a0_13 a0_14 a0_15 a0_16 a0_17 a0_18 a0_19 a0_20)) else (compositorref14_Check.j2 kj16 x3_1 x4_16 false a0_0 a0_1 a0_2 a0_3 l0_4 a0_5 a0_6 a0_7 a0_8 a0_9 a0_10 a0_11 a0_12 a0_13 a0_14 a0_15 a0_16 a0_17 a0_18 a0_19 a0_20))) else (compositorref14_Check.j2 kj16 x3_1 x4_16 false a0_0 a0_1 a0_2 a0_3 l0_4 a0_5 a0_6 a0_7 a0_8 a0_9 a0_10 a0_11 a0_12 a0_13 a0_14 a0_15 a0_16 a0_17 a0_18 a0_19 a0_20)) = some r := H
       have A41 := Aside0.mk A410
       clear A410
       by_cases c42 : t175 = true
       ·subst c42
        have H1 : ((compositorref14_in.f a0_14 (-1000) 1000).bind fun t176 => (if t176 = true then ((compositorref14_in.f a0_20 (-5) 5).bind fun t177 => (compositorref14_Check.j2 kj16 x3_1 x4_16 t177 a0_0 a0_1 a0_2 a0_3 l0_4 a0_5 a0_6 a0_7 a0_8 a0_9 a0_10 a0_11 a0_12 a0_13 a0_14 a0_15 a0_16 a0_17 a0_18 a0_19 a0_20)) else (compositorref14_Check.j2 kj16 x3_1 x4_16 false a0_0 a0_1 a0_2 a0_3 l0_4 a0_5 a0_6 a0_7 a0_8 a0_9 a0_10 a0_11 a0_12 a0_13 a0_14 a0_15 a0_16 a0_17 a0_18 a0_19 a0_20))) = some r := by rw [if_pos rfl] at H; exact H
        clear H
        have H := H1
        clear H1
        replace H := Option.bind_eq_some_iff.mp H
        obtain ⟨t176, A430, H⟩ := H
        replace H : (if t176 = true then ((compositorref14_in.f a0_20 (-5) 5).bind fun t177 => (compositorref14_Check.j2 kj16 x3_1 x4_16 t177 a0_0 a0_1 a0_2 a0_3 l0_4 a0_5 a0_6 a0_7 a0_8 a0_9 a0_10 a0_11 a0_12 a0_13 a0_14 a0_15 a0_16 a0_17 a0_18 a0_19 a0_20)) else (compositorref14_Check.j2 kj16 x3_1 x4_16 false a0_0 a0_1 a0_2 a0_3 l0_4 a0_5 a0_6 a0_7 a0_8 a0_9 a0_10 a0_11 a0_12 a0_13 a0_14 a0_15 a0_16 a0_17 a0_18 a0_19 a0_20)) = some r := H
        have A43 := Aside0.mk A430
        clear A430
        by_cases c44 : t176 = true
        ·subst c44
         have H1 : ((compositorref14_in.f a0_20 (-5) 5).bind fun t177 => (compositorref14_Check.j2 kj16 x3_1 x4_16 t177 a0_0 a0_1 a0_2 a0_3 l0_4 a0_5 a0_6 a0_7 a0_8 a0_9 a0_10 a0_11 a0_12 a0_13 a0_14 a0_15 a0_16 a0_17 a0_18 a0_19 a0_20)) = some r := by rw [if_pos rfl] at H; exact H
         clear H
         have H := H1
         clear H1
         replace H := Option.bind_eq_some_iff.mp H
         obtain ⟨t177, A450, H⟩ := H
         replace H : (compositorref14_Check.j2 kj16 x3_1 x4_16 t177 a0_0 a0_1 a0_2 a0_3 l0_4 a0_5 a0_6 a0_7 a0_8 a0_9 a0_10 a0_11 a0_12 a0_13 a0_14 a0_15 a0_16 a0_17 a0_18 a0_19 a0_20) = some r := H
         have A45 := Aside0.mk A450
         clear A450
         have H' := Aside0.mk H
         clear H
         have hcz46_0 := blk_cell BK162.out
         have hfz46_0 := blk_frozen BK162.out
         have tk_ : True := trivial
         go_wp2_with (first | ((with_reducible refine gate_load (T := 24) rfl ?_); refine load_row_event (by first | rfl | (go_simp; done)) 24 _ rfl gb162 rfl 24 _ (0, 0) _ (by (with_reducible repeat (first | refine blk_drewN ?_ _ | refine blk_drew ?_ | refine blk_alloc ?_ _)); first | with_reducible exact BK162.out) hu24 rfl (by kernel_rfl) ?_) | ((with_reducible refine gate_store (t := 24) rfl ?_); refine store_row_event (base := w.heap.size) rfl rfl 24 _ _ rfl (g := gb162) (by rfl) (by rfl) (by (with_reducible repeat (first | refine blk_drewN ?_ _ | refine blk_drew ?_ | refine blk_alloc ?_ _)); exact BK162.out) (by kernel_rfl) (by rfl) (by rfl) GE162.out ?_; intro ws_ hs_ hk_ hb_; have n0_ := Aside0.mk (Below.trans (by repeat (first | (with_reducible first | exact HB.out | apply below_alloc | apply pw_below_drewN | apply below_drew1) | exact HB.out)) hb_); clear HB; have HB := n0_; clear n0_; clear BK162; have BK162 := Aside0.mk hs_; clear hs_; have hxs_ := blk_cell BK162.out; have hys_ := blk_frozen BK162.out; clear hk_ hb_) | (go_at_call 26; clear tk_; (with_reducible refine (compositorref14_in.calls a0_12 0 1000 true _ A39.out).mono ?_); rintro e w' ⟨rfl, ⟨nd, rfl⟩⟩))
         as_aux_lemma =>
         have tk_ : True := trivial
         go_wp2_with (first | ((with_reducible refine gate_load (T := 24) rfl ?_); refine load_row_event (by first | rfl | (go_simp; done)) 24 _ rfl gb162 rfl 24 _ (0, 0) _ (by (with_reducible repeat (first | refine blk_drewN ?_ _ | refine blk_drew ?_ | refine blk_alloc ?_ _)); first | with_reducible exact BK162.out) hu24 rfl (by kernel_rfl) ?_) | ((with_reducible refine gate_store (t := 24) rfl ?_); refine store_row_event (base := w.heap.size) rfl rfl 24 _ _ rfl (g := gb162) (by rfl) (by rfl) (by (with_reducible repeat (first | refine blk_drewN ?_ _ | refine blk_drew ?_ | refine blk_alloc ?_ _)); exact BK162.out) (by kernel_rfl) (by rfl) (by rfl) GE162.out ?_; intro ws_ hs_ hk_ hb_; have n0_ := Aside0.mk (Below.trans (by repeat (first | (with_reducible first | exact HB.out | apply below_alloc | apply pw_below_drewN | apply below_drew1) | exact HB.out)) hb_); clear HB; have HB := n0_; clear n0_; clear BK162; have BK162 := Aside0.mk hs_; clear hs_; have hxs_ := blk_cell BK162.out; have hys_ := blk_frozen BK162.out; clear hk_ hb_) | (go_at_call 26; clear tk_; (with_reducible refine (compositorref14_in.calls a0_13 (-1000) 1000 true _ A41.out).mono ?_); rintro e w' ⟨rfl, ⟨nd, rfl⟩⟩))
         as_aux_lemma =>
         have tk_ : True := trivial
         go_wp2_with (first | ((with_reducible refine gate_load (T := 24) rfl ?_); refine load_row_event (by first | rfl | (go_simp; done)) 24 _ rfl gb162 rfl 24 _ (0, 0) _ (by (with_reducible repeat (first | refine blk_drewN ?_ _ | refine blk_drew ?_ | refine blk_alloc ?_ _)); first | with_reducible exact BK162.out) hu24 rfl (by kernel_rfl) ?_) | ((with_reducible refine gate_store (t := 24) rfl ?_); refine store_row_event (base := w.heap.size) rfl rfl 24 _ _ rfl (g := gb162) (by rfl) (by rfl) (by (with_reducible repeat (first | refine blk_drewN ?_ _ | refine blk_drew ?_ | refine blk_alloc ?_ _)); exact BK162.out) (by kernel_rfl) (by rfl) (by rfl) GE162.out ?_; intro ws_ hs_ hk_ hb_; have n0_ := Aside0.mk (Below.trans (by repeat (first | (with_reducible first | exact HB.out | apply below_alloc | apply pw_below_drewN | apply below_drew1) | exact HB.out)) hb_); clear HB; have HB := n0_; clear n0_; clear BK162; have BK162 := Aside0.mk hs_; clear hs_; have hxs_ := blk_cell BK162.out; have hys_ := blk_frozen BK162.out; clear hk_ hb_) | (go_at_call 26; clear tk_; (with_reducible refine (compositorref14_in.calls a0_14 (-1000) 1000 true _ A43.out).mono ?_); rintro e w' ⟨rfl, ⟨nd, rfl⟩⟩))
         as_aux_lemma =>
         have tk_ : True := trivial
         go_wp2_with (first | ((with_reducible refine gate_load (T := 24) rfl ?_); refine load_row_event (by first | rfl | (go_simp; done)) 24 _ rfl gb162 rfl 24 _ (0, 0) _ (by (with_reducible repeat (first | refine blk_drewN ?_ _ | refine blk_drew ?_ | refine blk_alloc ?_ _)); first | with_reducible exact BK162.out) hu24 rfl (by kernel_rfl) ?_) | ((with_reducible refine gate_store (t := 24) rfl ?_); refine store_row_event (base := w.heap.size) rfl rfl 24 _ _ rfl (g := gb162) (by rfl) (by rfl) (by (with_reducible repeat (first | refine blk_drewN ?_ _ | refine blk_drew ?_ | refine blk_alloc ?_ _)); exact BK162.out) (by kernel_rfl) (by rfl) (by rfl) GE162.out ?_; intro ws_ hs_ hk_ hb_; have n0_ := Aside0.mk (Below.trans (by repeat (first | (with_reducible first | exact HB.out | apply below_alloc | apply pw_below_drewN | apply below_drew1) | exact HB.out)) hb_); clear HB; have HB := n0_; clear n0_; clear BK162; have BK162 := Aside0.mk hs_; clear hs_; have hxs_ := blk_cell BK162.out; have hys_ := blk_frozen BK162.out; clear hk_ hb_) | (go_at_call 26; clear tk_; (with_reducible refine (compositorref14_in.calls a0_20 (-5) 5 t177 _ A45.out).mono ?_); rintro e w' ⟨rfl, ⟨nd, rfl⟩⟩))
         go_meet
         case rel => exact ⟨_, (t177), (by first | rfl | (simp; done) | (simp [*]; done)), H', ⟨by have := HJ1.out; have := HJ16.out; first | omega | exact Nat.le_refl _⟩, ⟨by (with_reducible repeat (first | refine blk_drewN ?_ _ | refine blk_drew ?_ | refine blk_alloc ?_ _)); exact BK162.out⟩, ⟨by repeat (first | (with_reducible first | exact HB.out | apply below_alloc | apply pw_below_drewN | apply below_drew1 | refine below_set ?_ GE162.out) | exact HB.out)⟩⟩
        ·replace c44 := Bool.eq_false_iff.mpr c44
         subst c44
         have H1 : (compositorref14_Check.j2 kj16 x3_1 x4_16 false a0_0 a0_1 a0_2 a0_3 l0_4 a0_5 a0_6 a0_7 a0_8 a0_9 a0_10 a0_11 a0_12 a0_13 a0_14 a0_15 a0_16 a0_17 a0_18 a0_19 a0_20) = some r := by rw [if_neg (show ¬ (false = true) by decide)] at H; exact H
         clear H
         have H := H1
         clear H1
         have H' := Aside0.mk H
         clear H
         have hcz47_0 := blk_cell BK162.out
         have hfz47_0 := blk_frozen BK162.out
         have tk_ : True := trivial
         go_wp2_with (first | ((with_reducible refine gate_load (T := 24) rfl ?_); refine load_row_event (by first | rfl | (go_simp; done)) 24 _ rfl gb162 rfl 24 _ (0, 0) _ (by (with_reducible repeat (first | refine blk_drewN ?_ _ | refine blk_drew ?_ | refine blk_alloc ?_ _)); first | with_reducible exact BK162.out) hu24 rfl (by kernel_rfl) ?_) | ((with_reducible refine gate_store (t := 24) rfl ?_); refine store_row_event (base := w.heap.size) rfl rfl 24 _ _ rfl (g := gb162) (by rfl) (by rfl) (by (with_reducible repeat (first | refine blk_drewN ?_ _ | refine blk_drew ?_ | refine blk_alloc ?_ _)); exact BK162.out) (by kernel_rfl) (by rfl) (by rfl) GE162.out ?_; intro ws_ hs_ hk_ hb_; have n0_ := Aside0.mk (Below.trans (by repeat (first | (with_reducible first | exact HB.out | apply below_alloc | apply pw_below_drewN | apply below_drew1) | exact HB.out)) hb_); clear HB; have HB := n0_; clear n0_; clear BK162; have BK162 := Aside0.mk hs_; clear hs_; have hxs_ := blk_cell BK162.out; have hys_ := blk_frozen BK162.out; clear hk_ hb_) | (go_at_call 26; clear tk_; (with_reducible refine (compositorref14_in.calls a0_12 0 1000 true _ A39.out).mono ?_); rintro e w' ⟨rfl, ⟨nd, rfl⟩⟩))
         as_aux_lemma =>
         have tk_ : True := trivial
         go_wp2_with (first | ((with_reducible refine gate_load (T := 24) rfl ?_); refine load_row_event (by first | rfl | (go_simp; done)) 24 _ rfl gb162 rfl 24 _ (0, 0) _ (by (with_reducible repeat (first | refine blk_drewN ?_ _ | refine blk_drew ?_ | refine blk_alloc ?_ _)); first | with_reducible exact BK162.out) hu24 rfl (by kernel_rfl) ?_) | ((with_reducible refine gate_store (t := 24) rfl ?_); refine store_row_event (base := w.heap.size) rfl rfl 24 _ _ rfl (g := gb162) (by rfl) (by rfl) (by (with_reducible repeat (first | refine blk_drewN ?_ _ | refine blk_drew ?_ | refine blk_alloc ?_ _)); exact BK162.out) (by kernel_rfl) (by rfl) (by rfl) GE162.out ?_; intro ws_ hs_ hk_ hb_; have n0_ := Aside0.mk (Below.trans (by repeat (first | (with_reducible first | exact HB.out | apply below_alloc | apply pw_below_drewN | apply below_drew1) | exact HB.out)) hb_); clear HB; have HB := n0_; clear n0_; clear BK162; have BK162 := Aside0.mk hs_; clear hs_; have hxs_ := blk_cell BK162.out; have hys_ := blk_frozen BK162.out; clear hk_ hb_) | (go_at_call 26; clear tk_; (with_reducible refine (compositorref14_in.calls a0_13 (-1000) 1000 true _ A41.out).mono ?_); rintro e w' ⟨rfl, ⟨nd, rfl⟩⟩))
         as_aux_lemma =>
         have tk_ : True := trivial
         go_wp2_with (first | ((with_reducible refine gate_load (T := 24) rfl ?_); refine load_row_event (by first | rfl | (go_simp; done)) 24 _ rfl gb162 rfl 24 _ (0, 0) _ (by (with_reducible repeat (first | refine blk_drewN ?_ _ | refine blk_drew ?_ | refine blk_alloc ?_ _)); first | with_reducible exact BK162.out) hu24 rfl (by kernel_rfl) ?_) | ((with_reducible refine gate_store (t := 24) rfl ?_); refine store_row_event (base := w.heap.size) rfl rfl 24 _ _ rfl (g := gb162) (by rfl) (by rfl) (by (with_reducible repeat (first | refine blk_drewN ?_ _ | refine blk_drew ?_ | refine blk_alloc ?_ _)); exact BK162.out) (by kernel_rfl) (by rfl) (by rfl) GE162.out ?_; intro ws_ hs_ hk_ hb_; have n0_ := Aside0.mk (Below.trans (by repeat (first | (with_reducible first | exact HB.out | apply below_alloc | apply pw_below_drewN | apply below_drew1) | exact HB.out)) hb_); clear HB; have HB := n0_; clear n0_; clear BK162; have BK162 := Aside0.mk hs_; clear hs_; have hxs_ := blk_cell BK162.out; have hys_ := blk_frozen BK162.out; clear hk_ hb_) | (go_at_call 26; clear tk_; (with_reducible refine (compositorref14_in.calls a0_14 (-1000) 1000 false _ A43.out).mono ?_); rintro e w' ⟨rfl, ⟨nd, rfl⟩⟩))
         go_meet
         case rel => exact ⟨_, (false), (by first | rfl | (simp; done) | (simp [*]; done)), H', ⟨by have := HJ1.out; have := HJ16.out; first | omega | exact Nat.le_refl _⟩, ⟨by (with_reducible repeat (first | refine blk_drewN ?_ _ | refine blk_drew ?_ | refine blk_alloc ?_ _)); exact BK162.out⟩, ⟨by repeat (first | (with_reducible first | exact HB.out | apply below_alloc | apply pw_below_drewN | apply below_drew1 | refine below_set ?_ GE162.out) | exact HB.out)⟩⟩
       ·replace c42 := Bool.eq_false_iff.mpr c42
        subst c42
        have H1 : (compositorref14_Check.j2 kj16 x3_1 x4_16 false a0_0 a0_1 a0_2 a0_3 l0_4 a0_5 a0_6 a0_7 a0_8 a0_9 a0_10 a0_11 a0_12 a0_13 a0_14 a0_15 a0_16 a0_17 a0_18 a0_19 a0_20) = some r := by rw [if_neg (show ¬ (false = true) by decide)] at H; exact H
        clear H
        have H := H1
        clear H1
        have H' := Aside0.mk H
        clear H
        have hcz48_0 := blk_cell BK162.out
        have hfz48_0 := blk_frozen BK162.out
        have tk_ : True := trivial
        go_wp2_with (first | ((with_reducible refine gate_load (T := 24) rfl ?_); refine load_row_event (by first | rfl | (go_simp; done)) 24 _ rfl gb162 rfl 24 _ (0, 0) _ (by (with_reducible repeat (first | refine blk_drewN ?_ _ | refine blk_drew ?_ | refine blk_alloc ?_ _)); first | with_reducible exact BK162.out) hu24 rfl (by kernel_rfl) ?_) | ((with_reducible refine gate_store (t := 24) rfl ?_); refine store_row_event (base := w.heap.size) rfl rfl 24 _ _ rfl (g := gb162) (by rfl) (by rfl) (by (with_reducible repeat (first | refine blk_drewN ?_ _ | refine blk_drew ?_ | refine blk_alloc ?_ _)); exact BK162.out) (by kernel_rfl) (by rfl) (by rfl) GE162.out ?_; intro ws_ hs_ hk_ hb_; have n0_ := Aside0.mk (Below.trans (by repeat (first | (with_reducible first | exact HB.out | apply below_alloc | apply pw_below_drewN | apply below_drew1) | exact HB.out)) hb_); clear HB; have HB := n0_; clear n0_; clear BK162; have BK162 := Aside0.mk hs_; clear hs_; have hxs_ := blk_cell BK162.out; have hys_ := blk_frozen BK162.out; clear hk_ hb_) | (go_at_call 26; clear tk_; (with_reducible refine (compositorref14_in.calls a0_12 0 1000 true _ A39.out).mono ?_); rintro e w' ⟨rfl, ⟨nd, rfl⟩⟩))
        as_aux_lemma =>
        have tk_ : True := trivial
        go_wp2_with (first | ((with_reducible refine gate_load (T := 24) rfl ?_); refine load_row_event (by first | rfl | (go_simp; done)) 24 _ rfl gb162 rfl 24 _ (0, 0) _ (by (with_reducible repeat (first | refine blk_drewN ?_ _ | refine blk_drew ?_ | refine blk_alloc ?_ _)); first | with_reducible exact BK162.out) hu24 rfl (by kernel_rfl) ?_) | ((with_reducible refine gate_store (t := 24) rfl ?_); refine store_row_event (base := w.heap.size) rfl rfl 24 _ _ rfl (g := gb162) (by rfl) (by rfl) (by (with_reducible repeat (first | refine blk_drewN ?_ _ | refine blk_drew ?_ | refine blk_alloc ?_ _)); exact BK162.out) (by kernel_rfl) (by rfl) (by rfl) GE162.out ?_; intro ws_ hs_ hk_ hb_; have n0_ := Aside0.mk (Below.trans (by repeat (first | (with_reducible first | exact HB.out | apply below_alloc | apply pw_below_drewN | apply below_drew1) | exact HB.out)) hb_); clear HB; have HB := n0_; clear n0_; clear BK162; have BK162 := Aside0.mk hs_; clear hs_; have hxs_ := blk_cell BK162.out; have hys_ := blk_frozen BK162.out; clear hk_ hb_) | (go_at_call 26; clear tk_; (with_reducible refine (compositorref14_in.calls a0_13 (-1000) 1000 false _ A41.out).mono ?_); rintro e w' ⟨rfl, ⟨nd, rfl⟩⟩))
        go_meet
        case rel => exact ⟨_, (false), (by first | rfl | (simp; done) | (simp [*]; done)), H', ⟨by have := HJ1.out; have := HJ16.out; first | omega | exact Nat.le_refl _⟩, ⟨by (with_reducible repeat (first | refine blk_drewN ?_ _ | refine blk_drew ?_ | refine blk_alloc ?_ _)); exact BK162.out⟩, ⟨by repeat (first | (with_reducible first | exact HB.out | apply below_alloc | apply pw_below_drewN | apply below_drew1 | refine below_set ?_ GE162.out) | exact HB.out)⟩⟩
      ·replace c40 := Bool.eq_false_iff.mpr c40
       subst c40
       have H1 : (compositorref14_Check.j2 kj16 x3_1 x4_16 false a0_0 a0_1 a0_2 a0_3 l0_4 a0_5 a0_6 a0_7 a0_8 a0_9 a0_10 a0_11 a0_12 a0_13 a0_14 a0_15 a0_16 a0_17 a0_18 a0_19 a0_20) = some r := by rw [if_neg (show ¬ (false = true) by decide)] at H; exact H
       clear H
       have H := H1
       clear H1
       have H' := Aside0.mk H
       clear H
       have hcz49_0 := blk_cell BK162.out
       have hfz49_0 := blk_frozen BK162.out
       go_wp2_with (first | ((with_reducible refine gate_load (T := 24) rfl ?_); refine load_row_event (by first | rfl | (go_simp; done)) 24 _ rfl gb162 rfl 24 _ (0, 0) _ (by (with_reducible repeat (first | refine blk_drewN ?_ _ | refine blk_drew ?_ | refine blk_alloc ?_ _)); first | with_reducible exact BK162.out) hu24 rfl (by kernel_rfl) ?_) | ((with_reducible refine gate_store (t := 24) rfl ?_); refine store_row_event (base := w.heap.size) rfl rfl 24 _ _ rfl (g := gb162) (by rfl) (by rfl) (by (with_reducible repeat (first | refine blk_drewN ?_ _ | refine blk_drew ?_ | refine blk_alloc ?_ _)); exact BK162.out) (by kernel_rfl) (by rfl) (by rfl) GE162.out ?_; intro ws_ hs_ hk_ hb_; have n0_ := Aside0.mk (Below.trans (by repeat (first | (with_reducible first | exact HB.out | apply below_alloc | apply pw_below_drewN | apply below_drew1) | exact HB.out)) hb_); clear HB; have HB := n0_; clear n0_; clear BK162; have BK162 := Aside0.mk hs_; clear hs_; have hxs_ := blk_cell BK162.out; have hys_ := blk_frozen BK162.out; clear hk_ hb_) | ((with_reducible refine gate_callee (f := 26) rfl ?_); refine goesL_ (some 73) rfl rfl Try.func26 (by kernel_rfl) rfl #[.int .i64 a0_12, .int .i64 0, .int .i64 1000] rfl (by (try simp only [List.map_toArray, List.map_cons, List.map_nil]); first | done | rfl | (simp only [List.length_drop, List.length_take]; rfl)) ?_; (with_reducible refine (compositorref14_in.calls a0_12 0 1000 false _ A39.out).mono ?_); rintro e w' ⟨rfl, ⟨nd, rfl⟩⟩; refine ⟨_, rfl, ?_⟩))
       go_meet
       case rel => exact ⟨_, (false), (by first | rfl | (simp; done) | (simp [*]; done)), H', ⟨by have := HJ1.out; have := HJ16.out; first | omega | exact Nat.le_refl _⟩, ⟨by (with_reducible repeat (first | refine blk_drewN ?_ _ | refine blk_drew ?_ | refine blk_alloc ?_ _)); exact BK162.out⟩, ⟨by repeat (first | (with_reducible first | exact HB.out | apply below_alloc | apply pw_below_drewN | apply below_drew1 | refine below_set ?_ GE162.out) | exact HB.out)⟩⟩
     case rest => as_aux_lemma =>
      clear HC38
      try clear c2
      try clear p2
      try clear c4
      try clear c26
      try clear c40
      try clear c42
      try clear c44
      try clear hcz33_6
      try clear hcz33_7
      try clear hcz33_8
      try clear hcz33_9
      try clear hcz34_0
      try clear hcz34_1
      try clear hcz34_10
      try clear hcz34_11
      try clear hcz34_12
      try clear hcz34_13
      try clear hcz34_14
      try clear hcz34_15
      try clear hcz34_16
      try clear hcz34_17
      try clear hcz34_18
      try clear hcz34_19
      try clear hcz34_2
      try clear hcz34_20
      try clear hcz34_3
      try clear hcz34_4
      try clear hcz34_5
      try clear hcz34_6
      try clear hcz34_7
      try clear hcz34_8
      try clear hcz34_9
      try clear hcz35_0
      try clear hcz35_1
      try clear hcz35_10
      try clear hcz35_11
      try clear hcz35_12
      try clear hcz35_13
      try clear hcz35_14
      try clear hcz35_15
      try clear hcz35_16
      try clear hcz35_17
      try clear hcz35_18
      try clear hcz35_19
      try clear hcz35_2
      try clear hcz35_20
      try clear hcz35_3
      try clear hcz35_4
      try clear hcz35_5
      try clear hcz35_6
      try clear hcz35_7
      try clear hcz35_8
      try clear hcz35_9
      try clear hcz36_0
      try clear hcz36_1
      try clear hcz36_10
      try clear hcz36_11
      try clear hcz36_12
      try clear hcz36_13
      try clear hcz36_14
      try clear hcz36_15
      try clear hcz36_16
      try clear hcz36_17
      try clear hcz36_18
      try clear hcz36_19
      try clear hcz36_2
      try clear hcz36_20
      try clear hcz36_3
      try clear hcz36_4
      try clear hcz36_5
      try clear hcz36_6
      try clear hcz36_7
      try clear hcz36_8
      try clear hcz36_9
      try clear hcz37_0
      try clear hcz37_1
      try clear hcz37_10
      try clear hcz37_11
      try clear hcz37_12
      try clear hcz37_13
      try clear hcz37_14
      try clear hcz37_15
      try clear hcz37_16
      try clear hcz37_17
      try clear hcz37_18
      try clear hcz37_19
      try clear hcz37_2
      try clear hcz37_20
      try clear hcz37_3
      try clear hcz37_4
      try clear hcz37_5
      try clear hcz37_6
      try clear hcz37_7
      try clear hcz37_8
      try clear hcz37_9
      try clear hcz46_0
      try clear hcz46_1
      try clear hcz46_10
      try clear hcz46_11
      try clear hcz46_12
      try clear hcz46_13
      try clear hcz46_14
      try clear hcz46_15
      try clear hcz46_16
      try clear hcz46_17
      try clear hcz46_18
      try clear hcz46_19
      try clear hcz46_2
      try clear hcz46_20
      try clear hcz46_3
      try clear hcz46_4
      try clear hcz46_5
      try clear hcz46_6
      try clear hcz46_7
      try clear hcz46_8
      try clear hcz46_9
      try clear hcz47_0
      try clear hcz47_1
      try clear hcz47_10
      try clear hcz47_11
      try clear hcz47_12
      try clear hcz47_13
      try clear hcz47_14
      try clear hcz47_15
      try clear hcz47_16
      try clear hcz47_17
      try clear hcz47_18
      try clear hcz47_19
      try clear hcz47_2
      try clear hcz47_20
      try clear hcz47_3
      try clear hcz47_4
      try clear hcz47_5
      try clear hcz47_6
      try clear hcz47_7
      try clear hcz47_8
      try clear hcz47_9
      try clear hcz48_0
      try clear hcz48_1
      try clear hcz48_10
      try clear hcz48_11
      try clear hcz48_12
      try clear hcz48_13
      try clear hcz48_14
      try clear hcz48_15
      try clear hcz48_16
      try clear hcz48_17
      try clear hcz48_18
      try clear hcz48_19
      try clear hcz48_2
      try clear hcz48_20
      try clear hcz48_3
      try clear hcz48_4
      try clear hcz48_5
      try clear hcz48_6
      try clear hcz48_7
      try clear hcz48_8
      try clear hcz48_9
      try clear hcz49_0
      try clear hcz49_1
      try clear hcz49_10
      try clear hcz49_11
      try clear hcz49_12
      try clear hcz49_13
      try clear hcz49_14
      try clear hcz49_15
      try clear hcz49_16
      try clear hcz49_17
      try clear hcz49_18
      try clear hcz49_19
      try clear hcz49_2
      try clear hcz49_20
      try clear hcz49_3
      try clear hcz49_4
      try clear hcz49_5
      try clear hcz49_6
      try clear hcz49_7
      try clear hcz49_8
      try clear hcz49_9
      try clear hfz12_0
      try clear hfz12_1
      try clear hfz12_10
      try clear hfz12_11
      try clear hfz12_12
      try clear hfz12_13
      try clear hfz12_14
      try clear hfz12_15
      try clear hfz12_16
      try clear hfz12_17
      try clear hfz12_18
      try clear hfz12_19
      try clear hfz12_2
      try clear hfz12_20
      try clear hfz12_3
      try clear hfz12_4
      try clear hfz12_5
      try clear hfz12_6
      try clear hfz12_7
      try clear hfz12_8
      try clear hfz12_9
      try clear hfz13_0
      try clear hfz13_1
      try clear hfz13_10
      try clear hfz13_11
      try clear hfz13_12
      try clear hfz13_13
      try clear hfz13_14
      try clear hfz13_15
      try clear hfz13_16
      try clear hfz13_17
      try clear hfz13_18
      try clear hfz13_19
      try clear hfz13_2
      try clear hfz13_20
      try clear hfz13_3
      try clear hfz13_4
      try clear hfz13_5
      try clear hfz13_6
      try clear hfz13_7
      try clear hfz13_8
      try clear hfz13_9
      try clear hfz14_0
      try clear hfz14_1
      try clear hfz14_10
      try clear hfz14_11
      try clear hfz14_12
      try clear hfz14_13
      try clear hfz14_14
      try clear hfz14_15
      try clear hfz14_16
      try clear hfz14_17
      try clear hfz14_18
      try clear hfz14_19
      try clear hfz14_2
      try clear hfz14_20
      try clear hfz14_3
      try clear hfz14_4
      try clear hfz14_5
      try clear hfz14_6
      try clear hfz14_7
      try clear hfz14_8
      try clear hfz14_9
      try clear hfz15_0
      try clear hfz15_1
      try clear hfz15_10
      try clear hfz15_11
      try clear hfz15_12
      try clear hfz15_13
      try clear hfz15_14
      try clear hfz15_15
      try clear hfz15_16
      try clear hfz15_17
      try clear hfz15_18
      try clear hfz15_19
      try clear hfz15_2
      try clear hfz15_20
      try clear hfz15_3
      try clear hfz15_4
      try clear hfz15_5
      try clear hfz15_6
      try clear hfz15_7
      try clear hfz15_8
      try clear hfz15_9
      try clear hfz16_0
      try clear hfz16_1
      try clear hfz16_10
      try clear hfz16_11
      try clear hfz16_12
      try clear hfz16_13
      try clear hfz16_14
      try clear hfz16_15
      try clear hfz16_16
      try clear hfz16_17
      try clear hfz16_18
      try clear hfz16_19
      try clear hfz16_2
      try clear hfz16_20
      try clear hfz16_3
      try clear hfz16_4
      try clear hfz16_5
      try clear hfz16_6
      try clear hfz16_7
      try clear hfz16_8
      try clear hfz16_9
      try clear hfz31_0
      try clear hfz31_1
      try clear hfz31_10
      try clear hfz31_11
      try clear hfz31_12
      try clear hfz31_13
      try clear hfz31_14
      try clear hfz31_15
      try clear hfz31_16
      try clear hfz31_17
      try clear hfz31_18
      try clear hfz31_19
      try clear hfz31_2
      try clear hfz31_20
      try clear hfz31_3
      try clear hfz31_4
      try clear hfz31_5
      try clear hfz31_6
      try clear hfz31_7
      try clear hfz31_8
      try clear hfz31_9
      try clear hfz32_0
      try clear hfz32_1
      try clear hfz32_10
      try clear hfz32_11
      try clear hfz32_12
      try clear hfz32_13
      try clear hfz32_14
      try clear hfz32_15
      try clear hfz32_16
      try clear hfz32_17
      try clear hfz32_18
      try clear hfz32_19
      try clear hfz32_2
      try clear hfz32_20
      try clear hfz32_3
      try clear hfz32_4
      try clear hfz32_5
      try clear hfz32_6
      try clear hfz32_7
      try clear hfz32_8
      try clear hfz32_9
      try clear hfz33_0
      try clear hfz33_1
      try clear hfz33_10
      try clear hfz33_11
      try clear hfz33_12
      try clear hfz33_13
      try clear hfz33_14
      try clear hfz33_15
      try clear hfz33_16
      try clear hfz33_17
      try clear hfz33_18
      try clear hfz33_19
      try clear hfz33_2
      try clear hfz33_20
      try clear hfz33_3
      try clear hfz33_4
      try clear hfz33_5
      try clear hfz33_6
      try clear hfz33_7
      try clear hfz33_8
      try clear hfz33_9
      try clear hfz34_0
      try clear hfz34_1
      try clear hfz34_10
      try clear hfz34_11
      try clear hfz34_12
      try clear hfz34_13
      try clear hfz34_14
      try clear hfz34_15
      try clear hfz34_16
      try clear hfz34_17
      try clear hfz34_18
      try clear hfz34_19
      try clear hfz34_2
      try clear hfz34_20
      try clear hfz34_3
      try clear hfz34_4
      try clear hfz34_5
      try clear hfz34_6
      try clear hfz34_7
      try clear hfz34_8
      try clear hfz34_9
      try clear hfz35_0
      try clear hfz35_1
      try clear hfz35_10
      try clear hfz35_11
      try clear hfz35_12
      try clear hfz35_13
      try clear hfz35_14
      try clear hfz35_15
      try clear hfz35_16
      try clear hfz35_17
      try clear hfz35_18
      try clear hfz35_19
      try clear hfz35_2
      try clear hfz35_20
      try clear hfz35_3
      try clear hfz35_4
      try clear hfz35_5
      try clear hfz35_6
      try clear hfz35_7
      try clear hfz35_8
      try clear hfz35_9
      try clear hfz36_0
      try clear hfz36_1
      try clear hfz36_10
      try clear hfz36_11
      try clear hfz36_12
      try clear hfz36_13
      try clear hfz36_14
      try clear hfz36_15
      try clear hfz36_16
      try clear hfz36_17
      try clear hfz36_18
      try clear hfz36_19
      try clear hfz36_2
      try clear hfz36_20
      try clear hfz36_3
      try clear hfz36_4
      try clear hfz36_5
      try clear hfz36_6
      try clear hfz36_7
      try clear hfz36_8
      try clear hfz36_9
      try clear hfz37_0
      try clear hfz37_1
      try clear hfz37_10
      try clear hfz37_11
      try clear hfz37_12
      try clear hfz37_13
      try clear hfz37_14
      try clear hfz37_15
      try clear hfz37_16
      try clear hfz37_17
      try clear hfz37_18
      try clear hfz37_19
      try clear hfz37_2
      try clear hfz37_20
      try clear hfz37_3
      try clear hfz37_4
      try clear hfz37_5
      try clear hfz37_6
      try clear hfz37_7
      try clear hfz37_8
      try clear hfz37_9
      try clear hfz46_0
      try clear hfz46_1
      try clear hfz46_10
      try clear hfz46_11
      try clear hfz46_12
      try clear hfz46_13
      try clear hfz46_14
      try clear hfz46_15
      try clear hfz46_16
      try clear hfz46_17
      try clear hfz46_18
      try clear hfz46_19
      try clear hfz46_2
      try clear hfz46_20
      try clear hfz46_3
      try clear hfz46_4
      try clear hfz46_5
      try clear hfz46_6
      try clear hfz46_7
      try clear hfz46_8
      try clear hfz46_9
      try clear hfz47_0
      try clear hfz47_1
      try clear hfz47_10
      try clear hfz47_11
      try clear hfz47_12
      try clear hfz47_13
      try clear hfz47_14
      try clear hfz47_15
      try clear hfz47_16
      try clear hfz47_17
      try clear hfz47_18
      try clear hfz47_19
      try clear hfz47_2
      try clear hfz47_20
      try clear hfz47_3
      try clear hfz47_4
      try clear hfz47_5
      try clear hfz47_6
      try clear hfz47_7
      try clear hfz47_8
      try clear hfz47_9
      try clear hfz48_0
      try clear hfz48_1
      try clear hfz48_10
      try clear hfz48_11
      try clear hfz48_12
      try clear hfz48_13
      try clear hfz48_14
      try clear hfz48_15
      try clear hfz48_16
      try clear hfz48_17
      try clear hfz48_18
      try clear hfz48_19
      try clear hfz48_2
      try clear hfz48_20
      try clear hfz48_3
      try clear hfz48_4
      try clear hfz48_5
      try clear hfz48_6
      try clear hfz48_7
      try clear hfz48_8
      try clear hfz48_9
      try clear hfz49_0
      try clear hfz49_1
      try clear hfz49_10
      try clear hfz49_11
      try clear hfz49_12
      try clear hfz49_13
      try clear hfz49_14
      try clear hfz49_15
      try clear hfz49_16
      try clear hfz49_17
      try clear hfz49_18
      try clear hfz49_19
      try clear hfz49_2
      try clear hfz49_20
      try clear hfz49_3
      try clear hfz49_4
      try clear hfz49_5
      try clear hfz49_6
      try clear hfz49_7
      try clear hfz49_8
      try clear hfz49_9
      obtain ⟨kq, x5_37, rfl, HA, HJ37, BK162, HB⟩ := hcut
      cases kq with
      | zero => exact absurd HA.out (by simp [compositorref14_Check.j2])
      | succ kj37 =>
       have H := HA.out
       clear HA
       simp only [compositorref14_Check.j2] at H
       have HC50 := Aside0.mk H
       clear H
       go_upto_region 4 with (fail)
       go_cut [6] (fun v6 wc => ∃ (kq : Nat) (x6_49 : Bool), v6 = .bool x6_49 ∧ Aside0 (compositorref14_Check.j3 kq x3_1 x4_16 x5_37 x6_49 a0_0 a0_1 a0_2 a0_3 l0_4 a0_5 a0_6 a0_7 a0_8 a0_9 a0_10 a0_11 a0_12 a0_13 a0_14 a0_15 a0_16 a0_17 a0_18 a0_19 a0_20 = some r) ∧ Aside0 (kq ≤ kj37) ∧ Aside0 (wc.heap[gb162]? = some (.cells #[.int .i64 a0_0, .int .i64 a0_1, .int .i64 a0_2, .int .i64 a0_3, (.slice A0_4 l0_4.length c0_4), .int .i64 a0_5, .int .i64 a0_6, .int .i64 a0_7, .int .i64 a0_8, .int .i64 a0_9, .int .i64 a0_10, .int .i64 a0_11, .int .i64 a0_12, .int .i64 a0_13, .int .i64 a0_14, .int .i64 a0_15, .int .i64 a0_16, .int .i64 a0_17, .int .i64 a0_18, .int .i64 a0_19, .int .i64 a0_20] 24 (0, 0))) ∧ Aside0 (Below w.heap.size w wc))
       case first => as_aux_lemma =>
        have H := HC50.out
        clear HC50
        replace H := Option.bind_eq_some_iff.mp H
        obtain ⟨t178, A510, H⟩ := H
        replace H : (if t178 = true then ((compositorref14_in.f a0_16 0 10000).bind fun t179 => (if t179 = true then ((compositorref14_in.f a0_17 0 10000).bind fun t180 => (if t180 = true then ((compositorref14_in.f a0_18 0 10000).bind fun t181 => (if t181 = true then ((compositorref14_in.f a0_19 0 10000).bind fun t182 => (compositorref14_Check.j3 kj37 x3_1 x4_16 x5_37 t182 a0_0 a0_1 a0_2 a0_3 l0_4 a0_5 a0_6 a0_7 a0_8 a0_9 a0_10 a0_11 a0_12 a0_13 a0_14 a0_15 a0_16 a0_17 a0_18 a0_19 a0_20)) else (compositorref14_Check.j3 kj37 x3_1 x4_16 x5_37 false a0_0 a0_1 a0_2 a0_3 l0_4 a0_5 a0_6 a0_7 a0_8 a0_9 a0_10 a0_11 a0_12 a0_13 a0_14 a0_15 a0_16 a0_17 a0_18 a0_19 a0_20))) else (compositorref14_Check.j3 kj37 x3_1 x4_16 x5_37 false a0_0 a0_1 a0_2 a0_3 l0_4 a0_5 a0_6 a0_7 a0_8 a0_9 a0_10 a0_11 a0_12 a0_13 a0_14 a0_15 a0_16 a0_17 a0_18 a0_19 a0_20))) else (compositorref14_Check.j3 kj37 x3_1 x4_16 x5_37 false a0_0 a0_1 a0_2 a0_3 l0_4 a0_5 a0_6 a0_7 a0_8 a0_9 a0_10 a0_11 a0_12 a0_13 a0_14 a0_15 a0_16 a0_17 a0_18 a0_19 a0_20))) else (compositorref14_Check.j3 kj37 x3_1 x4_16 x5_37 false a0_0 a0_1 a0_2 a0_3 l0_4 a0_5 a0_6 a0_7 a0_8 a0_9 a0_10 a0_11 a0_12 a0_13 a0_14 a0_15 a0_16 a0_17 a0_18 a0_19 a0_20)) = some r := H
        have A51 := Aside0.mk A510
        clear A510
        by_cases c52 : t178 = true
        ·subst c52
         have H1 : ((compositorref14_in.f a0_16 0 10000).bind fun t179 => (if t179 = true then ((compositorref14_in.f a0_17 0 10000).bind fun t180 => (if t180 = true then ((compositorref14_in.f a0_18 0 10000).bind fun t181 => (if t181 = true then ((compositorref14_in.f a0_19 0 10000).bind fun t182 => (compositorref14_Check.j3 kj37 x3_1 x4_16 x5_37 t182 a0_0 a0_1 a0_2 a0_3 l0_4 a0_5 a0_6 a0_7 a0_8 a0_9 a0_10 a0_11 a0_12 a0_13 a0_14 a0_15 a0_16 a0_17 a0_18 a0_19 a0_20)) else (compositorref14_Check.j3 kj37 x3_1 x4_16 x5_37 false a0_0 a0_1 a0_2 a0_3 l0_4 a0_5 a0_6 a0_7 a0_8 a0_9 a0_10 a0_11 a0_12 a0_13 a0_14 a0_15 a0_16 a0_17 a0_18 a0_19 a0_20))) else (compositorref14_Check.j3 kj37 x3_1 x4_16 x5_37 false a0_0 a0_1 a0_2 a0_3 l0_4 a0_5 a0_6 a0_7 a0_8 a0_9 a0_10 a0_11 a0_12 a0_13 a0_14 a0_15 a0_16 a0_17 a0_18 a0_19 a0_20))) else (compositorref14_Check.j3 kj37 x3_1 x4_16 x5_37 false a0_0 a0_1 a0_2 a0_3 l0_4 a0_5 a0_6 a0_7 a0_8 a0_9 a0_10 a0_11 a0_12 a0_13 a0_14 a0_15 a0_16 a0_17 a0_18 a0_19 a0_20))) = some r := by rw [if_pos rfl] at H; exact H
         clear H
         have H := H1
         clear H1
         replace H := Option.bind_eq_some_iff.mp H
         obtain ⟨t179, A530, H⟩ := H
         replace H : (if t179 = true then ((compositorref14_in.f a0_17 0 10000).bind fun t180 => (if t180 = true then ((compositorref14_in.f a0_18 0 10000).bind fun t181 => (if t181 = true then ((compositorref14_in.f a0_19 0 10000).bind fun t182 => (compositorref14_Check.j3 kj37 x3_1 x4_16 x5_37 t182 a0_0 a0_1 a0_2 a0_3 l0_4 a0_5 a0_6 a0_7 a0_8 a0_9 a0_10 a0_11 a0_12 a0_13 a0_14 a0_15 a0_16 a0_17 a0_18 a0_19 a0_20)) else (compositorref14_Check.j3 kj37 x3_1 x4_16 x5_37 false a0_0 a0_1 a0_2 a0_3 l0_4 a0_5 a0_6 a0_7 a0_8 a0_9 a0_10 a0_11 a0_12 a0_13 a0_14 a0_15 a0_16 a0_17 a0_18 a0_19 a0_20))) else (compositorref14_Check.j3 kj37 x3_1 x4_16 x5_37 false a0_0 a0_1 a0_2 a0_3 l0_4 a0_5 a0_6 a0_7 a0_8 a0_9 a0_10 a0_11 a0_12 a0_13 a0_14 a0_15 a0_16 a0_17 a0_18 a0_19 a0_20))) else (compositorref14_Check.j3 kj37 x3_1 x4_16 x5_37 false a0_0 a0_1 a0_2 a0_3 l0_4 a0_5 a0_6 a0_7 a0_8 a0_9 a0_10 a0_11 a0_12 a0_13 a0_14 a0_15 a0_16 a0_17 a0_18 a0_19 a0_20)) = some r := H
         have A53 := Aside0.mk A530
         clear A530
         by_cases c54 : t179 = true
         ·subst c54
          have H1 : ((compositorref14_in.f a0_17 0 10000).bind fun t180 => (if t180 = true then ((compositorref14_in.f a0_18 0 10000).bind fun t181 => (if t181 = true then ((compositorref14_in.f a0_19 0 10000).bind fun t182 => (compositorref14_Check.j3 kj37 x3_1 x4_16 x5_37 t182 a0_0 a0_1 a0_2 a0_3 l0_4 a0_5 a0_6 a0_7 a0_8 a0_9 a0_10 a0_11 a0_12 a0_13 a0_14 a0_15 a0_16 a0_17 a0_18 a0_19 a0_20)) else (compositorref14_Check.j3 kj37 x3_1 x4_16 x5_37 false a0_0 a0_1 a0_2 a0_3 l0_4 a0_5 a0_6 a0_7 a0_8 a0_9 a0_10 a0_11 a0_12 a0_13 a0_14 a0_15 a0_16 a0_17 a0_18 a0_19 a0_20))) else (compositorref14_Check.j3 kj37 x3_1 x4_16 x5_37 false a0_0 a0_1 a0_2 a0_3 l0_4 a0_5 a0_6 a0_7 a0_8 a0_9 a0_10 a0_11 a0_12 a0_13 a0_14 a0_15 a0_16 a0_17 a0_18 a0_19 a0_20))) = some r := by rw [if_pos rfl] at H; exact H
          clear H
          have H := H1
          clear H1
          replace H := Option.bind_eq_some_iff.mp H
          obtain ⟨t180, A550, H⟩ := H
          replace H : (if t180 = true then ((compositorref14_in.f a0_18 0 10000).bind fun t181 => (if t181 = true then ((compositorref14_in.f a0_19 0 10000).bind fun t182 => (compositorref14_Check.j3 kj37 x3_1 x4_16 x5_37 t182 a0_0 a0_1 a0_2 a0_3 l0_4 a0_5 a0_6 a0_7 a0_8 a0_9 a0_10 a0_11 a0_12 a0_13 a0_14 a0_15 a0_16 a0_17 a0_18 a0_19 a0_20)) else (compositorref14_Check.j3 kj37 x3_1 x4_16 x5_37 false a0_0 a0_1 a0_2 a0_3 l0_4 a0_5 a0_6 a0_7 a0_8 a0_9 a0_10 a0_11 a0_12 a0_13 a0_14 a0_15 a0_16 a0_17 a0_18 a0_19 a0_20))) else (compositorref14_Check.j3 kj37 x3_1 x4_16 x5_37 false a0_0 a0_1 a0_2 a0_3 l0_4 a0_5 a0_6 a0_7 a0_8 a0_9 a0_10 a0_11 a0_12 a0_13 a0_14 a0_15 a0_16 a0_17 a0_18 a0_19 a0_20)) = some r := H
          have A55 := Aside0.mk A550
          clear A550
          by_cases c56 : t180 = true
          ·subst c56
           have H1 : ((compositorref14_in.f a0_18 0 10000).bind fun t181 => (if t181 = true then ((compositorref14_in.f a0_19 0 10000).bind fun t182 => (compositorref14_Check.j3 kj37 x3_1 x4_16 x5_37 t182 a0_0 a0_1 a0_2 a0_3 l0_4 a0_5 a0_6 a0_7 a0_8 a0_9 a0_10 a0_11 a0_12 a0_13 a0_14 a0_15 a0_16 a0_17 a0_18 a0_19 a0_20)) else (compositorref14_Check.j3 kj37 x3_1 x4_16 x5_37 false a0_0 a0_1 a0_2 a0_3 l0_4 a0_5 a0_6 a0_7 a0_8 a0_9 a0_10 a0_11 a0_12 a0_13 a0_14 a0_15 a0_16 a0_17 a0_18 a0_19 a0_20))) = some r := by rw [if_pos rfl] at H; exact H
           clear H
           have H := H1
           clear H1
           replace H := Option.bind_eq_some_iff.mp H
           obtain ⟨t181, A570, H⟩ := H
           replace H : (if t181 = true then ((compositorref14_in.f a0_19 0 10000).bind fun t182 => (compositorref14_Check.j3 kj37 x3_1 x4_16 x5_37 t182 a0_0 a0_1 a0_2 a0_3 l0_4 a0_5 a0_6 a0_7 a0_8 a0_9 a0_10 a0_11 a0_12 a0_13 a0_14 a0_15 a0_16 a0_17 a0_18 a0_19 a0_20)) else (compositorref14_Check.j3 kj37 x3_1 x4_16 x5_37 false a0_0 a0_1 a0_2 a0_3 l0_4 a0_5 a0_6 a0_7 a0_8 a0_9 a0_10 a0_11 a0_12 a0_13 a0_14 a0_15 a0_16 a0_17 a0_18 a0_19 a0_20)) = some r := H
           have A57 := Aside0.mk A570
           clear A570
           by_cases c58 : t181 = true
           ·subst c58
            have H1 : ((compositorref14_in.f a0_19 0 10000).bind fun t182 => (compositorref14_Check.j3 kj37 x3_1 x4_16 x5_37 t182 a0_0 a0_1 a0_2 a0_3 l0_4 a0_5 a0_6 a0_7 a0_8 a0_9 a0_10 a0_11 a0_12 a0_13 a0_14 a0_15 a0_16 a0_17 a0_18 a0_19 a0_20)) = some r := by rw [if_pos rfl] at H; exact H
            clear H
            have H := H1
            clear H1
            replace H := Option.bind_eq_some_iff.mp H
            obtain ⟨t182, A590, H⟩ := H
            replace H : (compositorref14_Check.j3 kj37 x3_1 x4_16 x5_37 t182 a0_0 a0_1 a0_2 a0_3 l0_4 a0_5 a0_6 a0_7 a0_8 a0_9 a0_10 a0_11 a0_12 a0_13 a0_14 a0_15 a0_16 a0_17 a0_18 a0_19 a0_20) = some r := H
            have A59 := Aside0.mk A590
            clear A590
            have H' := Aside0.mk H
            clear H
            have hcz60_0 := blk_cell BK162.out
            have hfz60_0 := blk_frozen BK162.out
            have tk_ : True := trivial
            go_wp2_with (first | ((with_reducible refine gate_load (T := 24) rfl ?_); refine load_row_event (by first | rfl | (go_simp; done)) 24 _ rfl gb162 rfl 24 _ (0, 0) _ (by (with_reducible repeat (first | refine blk_drewN ?_ _ | refine blk_drew ?_ | refine blk_alloc ?_ _)); first | with_reducible exact BK162.out) hu24 rfl (by kernel_rfl) ?_) | ((with_reducible refine gate_store (t := 24) rfl ?_); refine store_row_event (base := w.heap.size) rfl rfl 24 _ _ rfl (g := gb162) (by rfl) (by rfl) (by (with_reducible repeat (first | refine blk_drewN ?_ _ | refine blk_drew ?_ | refine blk_alloc ?_ _)); exact BK162.out) (by kernel_rfl) (by rfl) (by rfl) GE162.out ?_; intro ws_ hs_ hk_ hb_; have n0_ := Aside0.mk (Below.trans (by repeat (first | (with_reducible first | exact HB.out | apply below_alloc | apply pw_below_drewN | apply below_drew1) | exact HB.out)) hb_); clear HB; have HB := n0_; clear n0_; clear BK162; have BK162 := Aside0.mk hs_; clear hs_; have hxs_ := blk_cell BK162.out; have hys_ := blk_frozen BK162.out; clear hk_ hb_) | (go_at_call 26; clear tk_; (with_reducible refine (compositorref14_in.calls a0_15 0 10000 true _ A51.out).mono ?_); rintro e w' ⟨rfl, ⟨nd, rfl⟩⟩))
            as_aux_lemma =>
            have tk_ : True := trivial
            go_wp2_with (first | ((with_reducible refine gate_load (T := 24) rfl ?_); refine load_row_event (by first | rfl | (go_simp; done)) 24 _ rfl gb162 rfl 24 _ (0, 0) _ (by (with_reducible repeat (first | refine blk_drewN ?_ _ | refine blk_drew ?_ | refine blk_alloc ?_ _)); first | with_reducible exact BK162.out) hu24 rfl (by kernel_rfl) ?_) | ((with_reducible refine gate_store (t := 24) rfl ?_); refine store_row_event (base := w.heap.size) rfl rfl 24 _ _ rfl (g := gb162) (by rfl) (by rfl) (by (with_reducible repeat (first | refine blk_drewN ?_ _ | refine blk_drew ?_ | refine blk_alloc ?_ _)); exact BK162.out) (by kernel_rfl) (by rfl) (by rfl) GE162.out ?_; intro ws_ hs_ hk_ hb_; have n0_ := Aside0.mk (Below.trans (by repeat (first | (with_reducible first | exact HB.out | apply below_alloc | apply pw_below_drewN | apply below_drew1) | exact HB.out)) hb_); clear HB; have HB := n0_; clear n0_; clear BK162; have BK162 := Aside0.mk hs_; clear hs_; have hxs_ := blk_cell BK162.out; have hys_ := blk_frozen BK162.out; clear hk_ hb_) | (go_at_call 26; clear tk_; (with_reducible refine (compositorref14_in.calls a0_16 0 10000 true _ A53.out).mono ?_); rintro e w' ⟨rfl, ⟨nd, rfl⟩⟩))
            as_aux_lemma =>
            have tk_ : True := trivial
            go_wp2_with (first | ((with_reducible refine gate_load (T := 24) rfl ?_); refine load_row_event (by first | rfl | (go_simp; done)) 24 _ rfl gb162 rfl 24 _ (0, 0) _ (by (with_reducible repeat (first | refine blk_drewN ?_ _ | refine blk_drew ?_ | refine blk_alloc ?_ _)); first | with_reducible exact BK162.out) hu24 rfl (by kernel_rfl) ?_) | ((with_reducible refine gate_store (t := 24) rfl ?_); refine store_row_event (base := w.heap.size) rfl rfl 24 _ _ rfl (g := gb162) (by rfl) (by rfl) (by (with_reducible repeat (first | refine blk_drewN ?_ _ | refine blk_drew ?_ | refine blk_alloc ?_ _)); exact BK162.out) (by kernel_rfl) (by rfl) (by rfl) GE162.out ?_; intro ws_ hs_ hk_ hb_; have n0_ := Aside0.mk (Below.trans (by repeat (first | (with_reducible first | exact HB.out | apply below_alloc | apply pw_below_drewN | apply below_drew1) | exact HB.out)) hb_); clear HB; have HB := n0_; clear n0_; clear BK162; have BK162 := Aside0.mk hs_; clear hs_; have hxs_ := blk_cell BK162.out; have hys_ := blk_frozen BK162.out; clear hk_ hb_) | (go_at_call 26; clear tk_; (with_reducible refine (compositorref14_in.calls a0_17 0 10000 true _ A55.out).mono ?_); rintro e w' ⟨rfl, ⟨nd, rfl⟩⟩))
            as_aux_lemma =>
            have tk_ : True := trivial
            go_wp2_with (first | ((with_reducible refine gate_load (T := 24) rfl ?_); refine load_row_event (by first | rfl | (go_simp; done)) 24 _ rfl gb162 rfl 24 _ (0, 0) _ (by (with_reducible repeat (first | refine blk_drewN ?_ _ | refine blk_drew ?_ | refine blk_alloc ?_ _)); first | with_reducible exact BK162.out) hu24 rfl (by kernel_rfl) ?_) | ((with_reducible refine gate_store (t := 24) rfl ?_); refine store_row_event (base := w.heap.size) rfl rfl 24 _ _ rfl (g := gb162) (by rfl) (by rfl) (by (with_reducible repeat (first | refine blk_drewN ?_ _ | refine blk_drew ?_ | refine blk_alloc ?_ _)); exact BK162.out) (by kernel_rfl) (by rfl) (by rfl) GE162.out ?_; intro ws_ hs_ hk_ hb_; have n0_ := Aside0.mk (Below.trans (by repeat (first | (with_reducible first | exact HB.out | apply below_alloc | apply pw_below_drewN | apply below_drew1) | exact HB.out)) hb_); clear HB; have HB := n0_; clear n0_; clear BK162; have BK162 := Aside0.mk hs_; clear hs_; have hxs_ := blk_cell BK162.out; have hys_ := blk_frozen BK162.out; clear hk_ hb_) | (go_at_call 26; clear tk_; (with_reducible refine (compositorref14_in.calls a0_18 0 10000 true _ A57.out).mono ?_); rintro e w' ⟨rfl, ⟨nd, rfl⟩⟩))
            as_aux_lemma =>
            have tk_ : True := trivial
            go_wp2_with (first | ((with_reducible refine gate_load (T := 24) rfl ?_); refine load_row_event (by first | rfl | (go_simp; done)) 24 _ rfl gb162 rfl 24 _ (0, 0) _ (by (with_reducible repeat (first | refine blk_drewN ?_ _ | refine blk_drew ?_ | refine blk_alloc ?_ _)); first | with_reducible exact BK162.out) hu24 rfl (by kernel_rfl) ?_) | ((with_reducible refine gate_store (t := 24) rfl ?_); refine store_row_event (base := w.heap.size) rfl rfl 24 _ _ rfl (g := gb162) (by rfl) (by rfl) (by (with_reducible repeat (first | refine blk_drewN ?_ _ | refine blk_drew ?_ | refine blk_alloc ?_ _)); exact BK162.out) (by kernel_rfl) (by rfl) (by rfl) GE162.out ?_; intro ws_ hs_ hk_ hb_; have n0_ := Aside0.mk (Below.trans (by repeat (first | (with_reducible first | exact HB.out | apply below_alloc | apply pw_below_drewN | apply below_drew1) | exact HB.out)) hb_); clear HB; have HB := n0_; clear n0_; clear BK162; have BK162 := Aside0.mk hs_; clear hs_; have hxs_ := blk_cell BK162.out; have hys_ := blk_frozen BK162.out; clear hk_ hb_) | (go_at_call 26; clear tk_; (with_reducible refine (compositorref14_in.calls a0_19 0 10000 t182 _ A59.out).mono ?_); rintro e w' ⟨rfl, ⟨nd, rfl⟩⟩))
            go_meet
            case rel => exact ⟨_, (t182), (by first | rfl | (simp; done) | (simp [*]; done)), H', ⟨by have := HJ1.out; have := HJ16.out; have := HJ37.out; first | omega | exact Nat.le_refl _⟩, ⟨by (with_reducible repeat (first | refine blk_drewN ?_ _ | refine blk_drew ?_ | refine blk_alloc ?_ _)); exact BK162.out⟩, ⟨by repeat (first | (with_reducible first | exact HB.out | apply below_alloc | apply pw_below_drewN | apply below_drew1 | refine below_set ?_ GE162.out) | exact HB.out)⟩⟩
           ·replace c58 := Bool.eq_false_iff.mpr c58
            subst c58
            have H1 : (compositorref14_Check.j3 kj37 x3_1 x4_16 x5_37 false a0_0 a0_1 a0_2 a0_3 l0_4 a0_5 a0_6 a0_7 a0_8 a0_9 a0_10 a0_11 a0_12 a0_13 a0_14 a0_15 a0_16 a0_17 a0_18 a0_19 a0_20) = some r := by rw [if_neg (show ¬ (false = true) by decide)] at H; exact H
            clear H
            have H := H1
            clear H1
            have H' := Aside0.mk H
            clear H
            have hcz61_0 := blk_cell BK162.out
            have hfz61_0 := blk_frozen BK162.out
            have tk_ : True := trivial
            go_wp2_with (first | ((with_reducible refine gate_load (T := 24) rfl ?_); refine load_row_event (by first | rfl | (go_simp; done)) 24 _ rfl gb162 rfl 24 _ (0, 0) _ (by (with_reducible repeat (first | refine blk_drewN ?_ _ | refine blk_drew ?_ | refine blk_alloc ?_ _)); first | with_reducible exact BK162.out) hu24 rfl (by kernel_rfl) ?_) | ((with_reducible refine gate_store (t := 24) rfl ?_); refine store_row_event (base := w.heap.size) rfl rfl 24 _ _ rfl (g := gb162) (by rfl) (by rfl) (by (with_reducible repeat (first | refine blk_drewN ?_ _ | refine blk_drew ?_ | refine blk_alloc ?_ _)); exact BK162.out) (by kernel_rfl) (by rfl) (by rfl) GE162.out ?_; intro ws_ hs_ hk_ hb_; have n0_ := Aside0.mk (Below.trans (by repeat (first | (with_reducible first | exact HB.out | apply below_alloc | apply pw_below_drewN | apply below_drew1) | exact HB.out)) hb_); clear HB; have HB := n0_; clear n0_; clear BK162; have BK162 := Aside0.mk hs_; clear hs_; have hxs_ := blk_cell BK162.out; have hys_ := blk_frozen BK162.out; clear hk_ hb_) | (go_at_call 26; clear tk_; (with_reducible refine (compositorref14_in.calls a0_15 0 10000 true _ A51.out).mono ?_); rintro e w' ⟨rfl, ⟨nd, rfl⟩⟩))
            as_aux_lemma =>
            have tk_ : True := trivial
            go_wp2_with (first | ((with_reducible refine gate_load (T := 24) rfl ?_); refine load_row_event (by first | rfl | (go_simp; done)) 24 _ rfl gb162 rfl 24 _ (0, 0) _ (by (with_reducible repeat (first | refine blk_drewN ?_ _ | refine blk_drew ?_ | refine blk_alloc ?_ _)); first | with_reducible exact BK162.out) hu24 rfl (by kernel_rfl) ?_) | ((with_reducible refine gate_store (t := 24) rfl ?_); refine store_row_event (base := w.heap.size) rfl rfl 24 _ _ rfl (g := gb162) (by rfl) (by rfl) (by (with_reducible repeat (first | refine blk_drewN ?_ _ | refine blk_drew ?_ | refine blk_alloc ?_ _)); exact BK162.out) (by kernel_rfl) (by rfl) (by rfl) GE162.out ?_; intro ws_ hs_ hk_ hb_; have n0_ := Aside0.mk (Below.trans (by repeat (first | (with_reducible first | exact HB.out | apply below_alloc | apply pw_below_drewN | apply below_drew1) | exact HB.out)) hb_); clear HB; have HB := n0_; clear n0_; clear BK162; have BK162 := Aside0.mk hs_; clear hs_; have hxs_ := blk_cell BK162.out; have hys_ := blk_frozen BK162.out; clear hk_ hb_) | (go_at_call 26; clear tk_; (with_reducible refine (compositorref14_in.calls a0_16 0 10000 true _ A53.out).mono ?_); rintro e w' ⟨rfl, ⟨nd, rfl⟩⟩))
            as_aux_lemma =>
            have tk_ : True := trivial
            go_wp2_with (first | ((with_reducible refine gate_load (T := 24) rfl ?_); refine load_row_event (by first | rfl | (go_simp; done)) 24 _ rfl gb162 rfl 24 _ (0, 0) _ (by (with_reducible repeat (first | refine blk_drewN ?_ _ | refine blk_drew ?_ | refine blk_alloc ?_ _)); first | with_reducible exact BK162.out) hu24 rfl (by kernel_rfl) ?_) | ((with_reducible refine gate_store (t := 24) rfl ?_); refine store_row_event (base := w.heap.size) rfl rfl 24 _ _ rfl (g := gb162) (by rfl) (by rfl) (by (with_reducible repeat (first | refine blk_drewN ?_ _ | refine blk_drew ?_ | refine blk_alloc ?_ _)); exact BK162.out) (by kernel_rfl) (by rfl) (by rfl) GE162.out ?_; intro ws_ hs_ hk_ hb_; have n0_ := Aside0.mk (Below.trans (by repeat (first | (with_reducible first | exact HB.out | apply below_alloc | apply pw_below_drewN | apply below_drew1) | exact HB.out)) hb_); clear HB; have HB := n0_; clear n0_; clear BK162; have BK162 := Aside0.mk hs_; clear hs_; have hxs_ := blk_cell BK162.out; have hys_ := blk_frozen BK162.out; clear hk_ hb_) | (go_at_call 26; clear tk_; (with_reducible refine (compositorref14_in.calls a0_17 0 10000 true _ A55.out).mono ?_); rintro e w' ⟨rfl, ⟨nd, rfl⟩⟩))
            as_aux_lemma =>
            have tk_ : True := trivial
            go_wp2_with (first | ((with_reducible refine gate_load (T := 24) rfl ?_); refine load_row_event (by first | rfl | (go_simp; done)) 24 _ rfl gb162 rfl 24 _ (0, 0) _ (by (with_reducible repeat (first | refine blk_drewN ?_ _ | refine blk_drew ?_ | refine blk_alloc ?_ _)); first | with_reducible exact BK162.out) hu24 rfl (by kernel_rfl) ?_) | ((with_reducible refine gate_store (t := 24) rfl ?_); refine store_row_event (base := w.heap.size) rfl rfl 24 _ _ rfl (g := gb162) (by rfl) (by rfl) (by (with_reducible repeat (first | refine blk_drewN ?_ _ | refine blk_drew ?_ | refine blk_alloc ?_ _)); exact BK162.out) (by kernel_rfl) (by rfl) (by rfl) GE162.out ?_; intro ws_ hs_ hk_ hb_; have n0_ := Aside0.mk (Below.trans (by repeat (first | (with_reducible first | exact HB.out | apply below_alloc | apply pw_below_drewN | apply below_drew1) | exact HB.out)) hb_); clear HB; have HB := n0_; clear n0_; clear BK162; have BK162 := Aside0.mk hs_; clear hs_; have hxs_ := blk_cell BK162.out; have hys_ := blk_frozen BK162.out; clear hk_ hb_) | (go_at_call 26; clear tk_; (with_reducible refine (compositorref14_in.calls a0_18 0 10000 false _ A57.out).mono ?_); rintro e w' ⟨rfl, ⟨nd, rfl⟩⟩))
            go_meet
            case rel => exact ⟨_, (false), (by first | rfl | (simp; done) | (simp [*]; done)), H', ⟨by have := HJ1.out; have := HJ16.out; have := HJ37.out; first | omega | exact Nat.le_refl _⟩, ⟨by (with_reducible repeat (first | refine blk_drewN ?_ _ | refine blk_drew ?_ | refine blk_alloc ?_ _)); exact BK162.out⟩, ⟨by repeat (first | (with_reducible first | exact HB.out | apply below_alloc | apply pw_below_drewN | apply below_drew1 | refine below_set ?_ GE162.out) | exact HB.out)⟩⟩
          ·replace c56 := Bool.eq_false_iff.mpr c56
           subst c56
           have H1 : (compositorref14_Check.j3 kj37 x3_1 x4_16 x5_37 false a0_0 a0_1 a0_2 a0_3 l0_4 a0_5 a0_6 a0_7 a0_8 a0_9 a0_10 a0_11 a0_12 a0_13 a0_14 a0_15 a0_16 a0_17 a0_18 a0_19 a0_20) = some r := by rw [if_neg (show ¬ (false = true) by decide)] at H; exact H
           clear H
           have H := H1
           clear H1
           have H' := Aside0.mk H
           clear H
           have hcz62_0 := blk_cell BK162.out
           have hfz62_0 := blk_frozen BK162.out
           have tk_ : True := trivial
           go_wp2_with (first | ((with_reducible refine gate_load (T := 24) rfl ?_); refine load_row_event (by first | rfl | (go_simp; done)) 24 _ rfl gb162 rfl 24 _ (0, 0) _ (by (with_reducible repeat (first | refine blk_drewN ?_ _ | refine blk_drew ?_ | refine blk_alloc ?_ _)); first | with_reducible exact BK162.out) hu24 rfl (by kernel_rfl) ?_) | ((with_reducible refine gate_store (t := 24) rfl ?_); refine store_row_event (base := w.heap.size) rfl rfl 24 _ _ rfl (g := gb162) (by rfl) (by rfl) (by (with_reducible repeat (first | refine blk_drewN ?_ _ | refine blk_drew ?_ | refine blk_alloc ?_ _)); exact BK162.out) (by kernel_rfl) (by rfl) (by rfl) GE162.out ?_; intro ws_ hs_ hk_ hb_; have n0_ := Aside0.mk (Below.trans (by repeat (first | (with_reducible first | exact HB.out | apply below_alloc | apply pw_below_drewN | apply below_drew1) | exact HB.out)) hb_); clear HB; have HB := n0_; clear n0_; clear BK162; have BK162 := Aside0.mk hs_; clear hs_; have hxs_ := blk_cell BK162.out; have hys_ := blk_frozen BK162.out; clear hk_ hb_) | (go_at_call 26; clear tk_; (with_reducible refine (compositorref14_in.calls a0_15 0 10000 true _ A51.out).mono ?_); rintro e w' ⟨rfl, ⟨nd, rfl⟩⟩))
           as_aux_lemma =>
           have tk_ : True := trivial
           go_wp2_with (first | ((with_reducible refine gate_load (T := 24) rfl ?_); refine load_row_event (by first | rfl | (go_simp; done)) 24 _ rfl gb162 rfl 24 _ (0, 0) _ (by (with_reducible repeat (first | refine blk_drewN ?_ _ | refine blk_drew ?_ | refine blk_alloc ?_ _)); first | with_reducible exact BK162.out) hu24 rfl (by kernel_rfl) ?_) | ((with_reducible refine gate_store (t := 24) rfl ?_); refine store_row_event (base := w.heap.size) rfl rfl 24 _ _ rfl (g := gb162) (by rfl) (by rfl) (by (with_reducible repeat (first | refine blk_drewN ?_ _ | refine blk_drew ?_ | refine blk_alloc ?_ _)); exact BK162.out) (by kernel_rfl) (by rfl) (by rfl) GE162.out ?_; intro ws_ hs_ hk_ hb_; have n0_ := Aside0.mk (Below.trans (by repeat (first | (with_reducible first | exact HB.out | apply below_alloc | apply pw_below_drewN | apply below_drew1) | exact HB.out)) hb_); clear HB; have HB := n0_; clear n0_; clear BK162; have BK162 := Aside0.mk hs_; clear hs_; have hxs_ := blk_cell BK162.out; have hys_ := blk_frozen BK162.out; clear hk_ hb_) | (go_at_call 26; clear tk_; (with_reducible refine (compositorref14_in.calls a0_16 0 10000 true _ A53.out).mono ?_); rintro e w' ⟨rfl, ⟨nd, rfl⟩⟩))
           as_aux_lemma =>
           have tk_ : True := trivial
           go_wp2_with (first | ((with_reducible refine gate_load (T := 24) rfl ?_); refine load_row_event (by first | rfl | (go_simp; done)) 24 _ rfl gb162 rfl 24 _ (0, 0) _ (by (with_reducible repeat (first | refine blk_drewN ?_ _ | refine blk_drew ?_ | refine blk_alloc ?_ _)); first | with_reducible exact BK162.out) hu24 rfl (by kernel_rfl) ?_) | ((with_reducible refine gate_store (t := 24) rfl ?_); refine store_row_event (base := w.heap.size) rfl rfl 24 _ _ rfl (g := gb162) (by rfl) (by rfl) (by (with_reducible repeat (first | refine blk_drewN ?_ _ | refine blk_drew ?_ | refine blk_alloc ?_ _)); exact BK162.out) (by kernel_rfl) (by rfl) (by rfl) GE162.out ?_; intro ws_ hs_ hk_ hb_; have n0_ := Aside0.mk (Below.trans (by repeat (first | (with_reducible first | exact HB.out | apply below_alloc | apply pw_below_drewN | apply below_drew1) | exact HB.out)) hb_); clear HB; have HB := n0_; clear n0_; clear BK162; have BK162 := Aside0.mk hs_; clear hs_; have hxs_ := blk_cell BK162.out; have hys_ := blk_frozen BK162.out; clear hk_ hb_) | (go_at_call 26; clear tk_; (with_reducible refine (compositorref14_in.calls a0_17 0 10000 false _ A55.out).mono ?_); rintro e w' ⟨rfl, ⟨nd, rfl⟩⟩))
           go_meet
           case rel => exact ⟨_, (false), (by first | rfl | (simp; done) | (simp [*]; done)), H', ⟨by have := HJ1.out; have := HJ16.out; have := HJ37.out; first | omega | exact Nat.le_refl _⟩, ⟨by (with_reducible repeat (first | refine blk_drewN ?_ _ | refine blk_drew ?_ | refine blk_alloc ?_ _)); exact BK162.out⟩, ⟨by repeat (first | (with_reducible first | exact HB.out | apply below_alloc | apply pw_below_drewN | apply below_drew1 | refine below_set ?_ GE162.out) | exact HB.out)⟩⟩
         ·replace c54 := Bool.eq_false_iff.mpr c54
          subst c54
          have H1 : (compositorref14_Check.j3 kj37 x3_1 x4_16 x5_37 false a0_0 a0_1 a0_2 a0_3 l0_4 a0_5 a0_6 a0_7 a0_8 a0_9 a0_10 a0_11 a0_12 a0_13 a0_14 a0_15 a0_16 a0_17 a0_18 a0_19 a0_20) = some r := by rw [if_neg (show ¬ (false = true) by decide)] at H; exact H
          clear H
          have H := H1
          clear H1
          have H' := Aside0.mk H
          clear H
          have hcz63_0 := blk_cell BK162.out
          have hfz63_0 := blk_frozen BK162.out
          have tk_ : True := trivial
          go_wp2_with (first | ((with_reducible refine gate_load (T := 24) rfl ?_); refine load_row_event (by first | rfl | (go_simp; done)) 24 _ rfl gb162 rfl 24 _ (0, 0) _ (by (with_reducible repeat (first | refine blk_drewN ?_ _ | refine blk_drew ?_ | refine blk_alloc ?_ _)); first | with_reducible exact BK162.out) hu24 rfl (by kernel_rfl) ?_) | ((with_reducible refine gate_store (t := 24) rfl ?_); refine store_row_event (base := w.heap.size) rfl rfl 24 _ _ rfl (g := gb162) (by rfl) (by rfl) (by (with_reducible repeat (first | refine blk_drewN ?_ _ | refine blk_drew ?_ | refine blk_alloc ?_ _)); exact BK162.out) (by kernel_rfl) (by rfl) (by rfl) GE162.out ?_; intro ws_ hs_ hk_ hb_; have n0_ := Aside0.mk (Below.trans (by repeat (first | (with_reducible first | exact HB.out | apply below_alloc | apply pw_below_drewN | apply below_drew1) | exact HB.out)) hb_); clear HB; have HB := n0_; clear n0_; clear BK162; have BK162 := Aside0.mk hs_; clear hs_; have hxs_ := blk_cell BK162.out; have hys_ := blk_frozen BK162.out; clear hk_ hb_) | (go_at_call 26; clear tk_; (with_reducible refine (compositorref14_in.calls a0_15 0 10000 true _ A51.out).mono ?_); rintro e w' ⟨rfl, ⟨nd, rfl⟩⟩))
          as_aux_lemma =>
          have tk_ : True := trivial
          go_wp2_with (first | ((with_reducible refine gate_load (T := 24) rfl ?_); refine load_row_event (by first | rfl | (go_simp; done)) 24 _ rfl gb162 rfl 24 _ (0, 0) _ (by (with_reducible repeat (first | refine blk_drewN ?_ _ | refine blk_drew ?_ | refine blk_alloc ?_ _)); first | with_reducible exact BK162.out) hu24 rfl (by kernel_rfl) ?_) | ((with_reducible refine gate_store (t := 24) rfl ?_); refine store_row_event (base := w.heap.size) rfl rfl 24 _ _ rfl (g := gb162) (by rfl) (by rfl) (by (with_reducible repeat (first | refine blk_drewN ?_ _ | refine blk_drew ?_ | refine blk_alloc ?_ _)); exact BK162.out) (by kernel_rfl) (by rfl) (by rfl) GE162.out ?_; intro ws_ hs_ hk_ hb_; have n0_ := Aside0.mk (Below.trans (by repeat (first | (with_reducible first | exact HB.out | apply below_alloc | apply pw_below_drewN | apply below_drew1) | exact HB.out)) hb_); clear HB; have HB := n0_; clear n0_; clear BK162; have BK162 := Aside0.mk hs_; clear hs_; have hxs_ := blk_cell BK162.out; have hys_ := blk_frozen BK162.out; clear hk_ hb_) | (go_at_call 26; clear tk_; (with_reducible refine (compositorref14_in.calls a0_16 0 10000 false _ A53.out).mono ?_); rintro e w' ⟨rfl, ⟨nd, rfl⟩⟩))
          go_meet
          case rel => exact ⟨_, (false), (by first | rfl | (simp; done) | (simp [*]; done)), H', ⟨by have := HJ1.out; have := HJ16.out; have := HJ37.out; first | omega | exact Nat.le_refl _⟩, ⟨by (with_reducible repeat (first | refine blk_drewN ?_ _ | refine blk_drew ?_ | refine blk_alloc ?_ _)); exact BK162.out⟩, ⟨by repeat (first | (with_reducible first | exact HB.out | apply below_alloc | apply pw_below_drewN | apply below_drew1 | refine below_set ?_ GE162.out) | exact HB.out)⟩⟩
        ·replace c52 := Bool.eq_false_iff.mpr c52
         subst c52
         have H1 : (compositorref14_Check.j3 kj37 x3_1 x4_16 x5_37 false a0_0 a0_1 a0_2 a0_3 l0_4 a0_5 a0_6 a0_7 a0_8 a0_9 a0_10 a0_11 a0_12 a0_13 a0_14 a0_15 a0_16 a0_17 a0_18 a0_19 a0_20) = some r := by rw [if_neg (show ¬ (false = true) by decide)] at H; exact H
         clear H
         have H := H1
         clear H1
         have H' := Aside0.mk H
         clear H
         have hcz64_0 := blk_cell BK162.out
         have hfz64_0 := blk_frozen BK162.out
         go_wp2_with (first | ((with_reducible refine gate_load (T := 24) rfl ?_); refine load_row_event (by first | rfl | (go_simp; done)) 24 _ rfl gb162 rfl 24 _ (0, 0) _ (by (with_reducible repeat (first | refine blk_drewN ?_ _ | refine blk_drew ?_ | refine blk_alloc ?_ _)); first | with_reducible exact BK162.out) hu24 rfl (by kernel_rfl) ?_) | ((with_reducible refine gate_store (t := 24) rfl ?_); refine store_row_event (base := w.heap.size) rfl rfl 24 _ _ rfl (g := gb162) (by rfl) (by rfl) (by (with_reducible repeat (first | refine blk_drewN ?_ _ | refine blk_drew ?_ | refine blk_alloc ?_ _)); exact BK162.out) (by kernel_rfl) (by rfl) (by rfl) GE162.out ?_; intro ws_ hs_ hk_ hb_; have n0_ := Aside0.mk (Below.trans (by repeat (first | (with_reducible first | exact HB.out | apply below_alloc | apply pw_below_drewN | apply below_drew1) | exact HB.out)) hb_); clear HB; have HB := n0_; clear n0_; clear BK162; have BK162 := Aside0.mk hs_; clear hs_; have hxs_ := blk_cell BK162.out; have hys_ := blk_frozen BK162.out; clear hk_ hb_) | ((with_reducible refine gate_callee (f := 26) rfl ?_); refine goesL_ (some 91) rfl rfl Try.func26 (by kernel_rfl) rfl #[.int .i64 a0_15, .int .i64 0, .int .i64 10000] rfl (by (try simp only [List.map_toArray, List.map_cons, List.map_nil]); first | done | rfl | (simp only [List.length_drop, List.length_take]; rfl)) ?_; (with_reducible refine (compositorref14_in.calls a0_15 0 10000 false _ A51.out).mono ?_); rintro e w' ⟨rfl, ⟨nd, rfl⟩⟩; refine ⟨_, rfl, ?_⟩))
         go_meet
         case rel => exact ⟨_, (false), (by first | rfl | (simp; done) | (simp [*]; done)), H', ⟨by have := HJ1.out; have := HJ16.out; have := HJ37.out; first | omega | exact Nat.le_refl _⟩, ⟨by (with_reducible repeat (first | refine blk_drewN ?_ _ | refine blk_drew ?_ | refine blk_alloc ?_ _)); exact BK162.out⟩, ⟨by repeat (first | (with_reducible first | exact HB.out | apply below_alloc | apply pw_below_drewN | apply below_drew1 | refine below_set ?_ GE162.out) | exact HB.out)⟩⟩
       case rest => as_aux_lemma =>
        clear HC50
        try clear c2
        try clear p2
        try clear c5
        try clear c26
        try clear c52
        try clear c54
        try clear c56
        try clear c58
        try clear hcz60_0
        try clear hcz60_1
        try clear hcz60_10
        try clear hcz60_11
        try clear hcz60_12
        try clear hcz60_13
        try clear hcz60_14
        try clear hcz60_15
        try clear hcz60_16
        try clear hcz60_17
        try clear hcz60_18
        try clear hcz60_19
        try clear hcz60_2
        try clear hcz60_20
        try clear hcz60_3
        try clear hcz60_4
        try clear hcz60_5
        try clear hcz60_6
        try clear hcz60_7
        try clear hcz60_8
        try clear hcz60_9
        try clear hcz61_0
        try clear hcz61_1
        try clear hcz61_10
        try clear hcz61_11
        try clear hcz61_12
        try clear hcz61_13
        try clear hcz61_14
        try clear hcz61_15
        try clear hcz61_16
        try clear hcz61_17
        try clear hcz61_18
        try clear hcz61_19
        try clear hcz61_2
        try clear hcz61_20
        try clear hcz61_3
        try clear hcz61_4
        try clear hcz61_5
        try clear hcz61_6
        try clear hcz61_7
        try clear hcz61_8
        try clear hcz61_9
        try clear hcz62_0
        try clear hcz62_1
        try clear hcz62_10
        try clear hcz62_11
        try clear hcz62_12
        try clear hcz62_13
        try clear hcz62_14
        try clear hcz62_15
        try clear hcz62_16
        try clear hcz62_17
        try clear hcz62_18
        try clear hcz62_19
        try clear hcz62_2
        try clear hcz62_20
        try clear hcz62_3
        try clear hcz62_4
        try clear hcz62_5
        try clear hcz62_6
        try clear hcz62_7
        try clear hcz62_8
        try clear hcz62_9
        try clear hcz63_0
        try clear hcz63_1
        try clear hcz63_10
        try clear hcz63_11
        try clear hcz63_12
        try clear hcz63_13
        try clear hcz63_14
        try clear hcz63_15
        try clear hcz63_16
        try clear hcz63_17
        try clear hcz63_18
        try clear hcz63_19
        try clear hcz63_2
        try clear hcz63_20
        try clear hcz63_3
        try clear hcz63_4
        try clear hcz63_5
        try clear hcz63_6
        try clear hcz63_7
        try clear hcz63_8
        try clear hcz63_9
        try clear hcz64_0
        try clear hcz64_1
        try clear hcz64_10
        try clear hcz64_11
        try clear hcz64_12
        try clear hcz64_13
        try clear hcz64_14
        try clear hcz64_15
        try clear hcz64_16
        try clear hcz64_17
        try clear hcz64_18
        try clear hcz64_19
        try clear hcz64_2
        try clear hcz64_20
        try clear hcz64_3
        try clear hcz64_4
        try clear hcz64_5
        try clear hcz64_6
        try clear hcz64_7
        try clear hcz64_8
        try clear hcz64_9
        try clear hfz14_7
        try clear hfz14_8
        try clear hfz14_9
        try clear hfz15_0
        try clear hfz15_1
        try clear hfz15_10
        try clear hfz15_11
        try clear hfz15_12
        try clear hfz15_13
        try clear hfz15_14
        try clear hfz15_15
        try clear hfz15_16
        try clear hfz15_17
        try clear hfz15_18
        try clear hfz15_19
        try clear hfz15_2
        try clear hfz15_20
        try clear hfz15_3
        try clear hfz15_4
        try clear hfz15_5
        try clear hfz15_6
        try clear hfz15_7
        try clear hfz15_8
        try clear hfz15_9
        try clear hfz16_0
        try clear hfz16_1
        try clear hfz16_10
        try clear hfz16_11
        try clear hfz16_12
        try clear hfz16_13
        try clear hfz16_14
        try clear hfz16_15
        try clear hfz16_16
        try clear hfz16_17
        try clear hfz16_18
        try clear hfz16_19
        try clear hfz16_2
        try clear hfz16_20
        try clear hfz16_3
        try clear hfz16_4
        try clear hfz16_5
        try clear hfz16_6
        try clear hfz16_7
        try clear hfz16_8
        try clear hfz16_9
        try clear hfz31_0
        try clear hfz31_1
        try clear hfz31_10
        try clear hfz31_11
        try clear hfz31_12
        try clear hfz31_13
        try clear hfz31_14
        try clear hfz31_15
        try clear hfz31_16
        try clear hfz31_17
        try clear hfz31_18
        try clear hfz31_19
        try clear hfz31_2
        try clear hfz31_20
        try clear hfz31_3
        try clear hfz31_4
        try clear hfz31_5
        try clear hfz31_6
        try clear hfz31_7
        try clear hfz31_8
        try clear hfz31_9
        try clear hfz32_0
        try clear hfz32_1
        try clear hfz32_10
        try clear hfz32_11
        try clear hfz32_12
        try clear hfz32_13
        try clear hfz32_14
        try clear hfz32_15
        try clear hfz32_16
        try clear hfz32_17
        try clear hfz32_18
        try clear hfz32_19
        try clear hfz32_2
        try clear hfz32_20
        try clear hfz32_3
        try clear hfz32_4
        try clear hfz32_5
        try clear hfz32_6
        try clear hfz32_7
        try clear hfz32_8
        try clear hfz32_9
        try clear hfz33_0
        try clear hfz33_1
        try clear hfz33_10
        try clear hfz33_11
        try clear hfz33_12
        try clear hfz33_13
        try clear hfz33_14
        try clear hfz33_15
        try clear hfz33_16
        try clear hfz33_17
        try clear hfz33_18
        try clear hfz33_19
        try clear hfz33_2
        try clear hfz33_20
        try clear hfz33_3
        try clear hfz33_4
        try clear hfz33_5
        try clear hfz33_6
        try clear hfz33_7
        try clear hfz33_8
        try clear hfz33_9
        try clear hfz34_0
        try clear hfz34_1
        try clear hfz34_10
        try clear hfz34_11
        try clear hfz34_12
        try clear hfz34_13
        try clear hfz34_14
        try clear hfz34_15
        try clear hfz34_16
        try clear hfz34_17
        try clear hfz34_18
        try clear hfz34_19
        try clear hfz34_2
        try clear hfz34_20
        try clear hfz34_3
        try clear hfz34_4
        try clear hfz34_5
        try clear hfz34_6
        try clear hfz34_7
        try clear hfz34_8
        try clear hfz34_9
        try clear hfz35_0
        try clear hfz35_1
        try clear hfz35_10
        try clear hfz35_11
        try clear hfz35_12
        try clear hfz35_13
        try clear hfz35_14
        try clear hfz35_15
        try clear hfz35_16
        try clear hfz35_17
        try clear hfz35_18
        try clear hfz35_19
        try clear hfz35_2
        try clear hfz35_20
        try clear hfz35_3
        try clear hfz35_4
        try clear hfz35_5
        try clear hfz35_6
        try clear hfz35_7
        try clear hfz35_8
        try clear hfz35_9
        try clear hfz36_0
        try clear hfz36_1
        try clear hfz36_10
        try clear hfz36_11
        try clear hfz36_12
        try clear hfz36_13
        try clear hfz36_14
        try clear hfz36_15
        try clear hfz36_16
        try clear hfz36_17
        try clear hfz36_18
        try clear hfz36_19
        try clear hfz36_2
        try clear hfz36_20
        try clear hfz36_3
        try clear hfz36_4
        try clear hfz36_5
        try clear hfz36_6
        try clear hfz36_7
        try clear hfz36_8
        try clear hfz36_9
        try clear hfz37_0
        try clear hfz37_1
        try clear hfz37_10
        try clear hfz37_11
        try clear hfz37_12
        try clear hfz37_13
        try clear hfz37_14
        try clear hfz37_15
        try clear hfz37_16
        try clear hfz37_17
        try clear hfz37_18
        try clear hfz37_19
        try clear hfz37_2
        try clear hfz37_20
        try clear hfz37_3
        try clear hfz37_4
        try clear hfz37_5
        try clear hfz37_6
        try clear hfz37_7
        try clear hfz37_8
        try clear hfz37_9
        try clear hfz46_0
        try clear hfz46_1
        try clear hfz46_10
        try clear hfz46_11
        try clear hfz46_12
        try clear hfz46_13
        try clear hfz46_14
        try clear hfz46_15
        try clear hfz46_16
        try clear hfz46_17
        try clear hfz46_18
        try clear hfz46_19
        try clear hfz46_2
        try clear hfz46_20
        try clear hfz46_3
        try clear hfz46_4
        try clear hfz46_5
        try clear hfz46_6
        try clear hfz46_7
        try clear hfz46_8
        try clear hfz46_9
        try clear hfz47_0
        try clear hfz47_1
        try clear hfz47_10
        try clear hfz47_11
        try clear hfz47_12
        try clear hfz47_13
        try clear hfz47_14
        try clear hfz47_15
        try clear hfz47_16
        try clear hfz47_17
        try clear hfz47_18
        try clear hfz47_19
        try clear hfz47_2
        try clear hfz47_20
        try clear hfz47_3
        try clear hfz47_4
        try clear hfz47_5
        try clear hfz47_6
        try clear hfz47_7
        try clear hfz47_8
        try clear hfz47_9
        try clear hfz48_0
        try clear hfz48_1
        try clear hfz48_10
        try clear hfz48_11
        try clear hfz48_12
        try clear hfz48_13
        try clear hfz48_14
        try clear hfz48_15
        try clear hfz48_16
        try clear hfz48_17
        try clear hfz48_18
        try clear hfz48_19
        try clear hfz48_2
        try clear hfz48_20
        try clear hfz48_3
        try clear hfz48_4
        try clear hfz48_5
        try clear hfz48_6
        try clear hfz48_7
        try clear hfz48_8
        try clear hfz48_9
        try clear hfz49_0
        try clear hfz49_1
        try clear hfz49_10
        try clear hfz49_11
        try clear hfz49_12
        try clear hfz49_13
        try clear hfz49_14
        try clear hfz49_15
        try clear hfz49_16
        try clear hfz49_17
        try clear hfz49_18
        try clear hfz49_19
        try clear hfz49_2
        try clear hfz49_20
        try clear hfz49_3
        try clear hfz49_4
        try clear hfz49_5
        try clear hfz49_6
        try clear hfz49_7
        try clear hfz49_8
        try clear hfz49_9
        try clear hfz60_0
        try clear hfz60_1
        try clear hfz60_10
        try clear hfz60_11
        try clear hfz60_12
        try clear hfz60_13
        try clear hfz60_14
        try clear hfz60_15
        try clear hfz60_16
        try clear hfz60_17
        try clear hfz60_18
        try clear hfz60_19
        try clear hfz60_2
        try clear hfz60_20
        try clear hfz60_3
        try clear hfz60_4
        try clear hfz60_5
        try clear hfz60_6
        try clear hfz60_7
        try clear hfz60_8
        try clear hfz60_9
        try clear hfz61_0
        try clear hfz61_1
        try clear hfz61_10
        try clear hfz61_11
        try clear hfz61_12
        try clear hfz61_13
        try clear hfz61_14
        try clear hfz61_15
        try clear hfz61_16
        try clear hfz61_17
        try clear hfz61_18
        try clear hfz61_19
        try clear hfz61_2
        try clear hfz61_20
        try clear hfz61_3
        try clear hfz61_4
        try clear hfz61_5
        try clear hfz61_6
        try clear hfz61_7
        try clear hfz61_8
        try clear hfz61_9
        try clear hfz62_0
        try clear hfz62_1
        try clear hfz62_10
        try clear hfz62_11
        try clear hfz62_12
        try clear hfz62_13
        try clear hfz62_14
        try clear hfz62_15
        try clear hfz62_16
        try clear hfz62_17
        try clear hfz62_18
        try clear hfz62_19
        try clear hfz62_2
        try clear hfz62_20
        try clear hfz62_3
        try clear hfz62_4
        try clear hfz62_5
        try clear hfz62_6
        try clear hfz62_7
        try clear hfz62_8
        try clear hfz62_9
        try clear hfz63_0
        try clear hfz63_1
        try clear hfz63_10
        try clear hfz63_11
        try clear hfz63_12
        try clear hfz63_13
        try clear hfz63_14
        try clear hfz63_15
        try clear hfz63_16
        try clear hfz63_17
        try clear hfz63_18
        try clear hfz63_19
        try clear hfz63_2
        try clear hfz63_20
        try clear hfz63_3
        try clear hfz63_4
        try clear hfz63_5
        try clear hfz63_6
        try clear hfz63_7
        try clear hfz63_8
        try clear hfz63_9
        try clear hfz64_0
        try clear hfz64_1
        try clear hfz64_10
        try clear hfz64_11
        try clear hfz64_12
        try clear hfz64_13
        try clear hfz64_14
        try clear hfz64_15
        try clear hfz64_16
        try clear hfz64_17
        try clear hfz64_18
        try clear hfz64_19
        try clear hfz64_2
        try clear hfz64_20
        try clear hfz64_3
        try clear hfz64_4
        try clear hfz64_5
        try clear hfz64_6
        try clear hfz64_7
        try clear hfz64_8
        try clear hfz64_9
        obtain ⟨kq, x6_49, rfl, HA, HJ49, BK162, HB⟩ := hcut
        cases kq with
        | zero => exact absurd HA.out (by simp [compositorref14_Check.j3])
        | succ kj49 =>
         have H := HA.out
         clear HA
         simp only [compositorref14_Check.j3] at H
         have HC65 := Aside0.mk H
         clear H
         go_upto_region 5 with (fail)
         go_cut [125] (fun v125 wc => ∃ (kq : Nat) (x125_64 : Bool), v125 = .bool x125_64 ∧ Aside0 (compositorref14_Check.j4 kq x125_64 a0_0 a0_1 a0_2 a0_3 l0_4 a0_5 a0_6 a0_7 a0_8 a0_9 a0_10 a0_11 a0_12 a0_13 a0_14 a0_15 a0_16 a0_17 a0_18 a0_19 a0_20 = some r) ∧ Aside0 (kq ≤ kj49) ∧ Aside0 (wc.heap[gb162]? = some (.cells #[.int .i64 a0_0, .int .i64 a0_1, .int .i64 a0_2, .int .i64 a0_3, (.slice A0_4 l0_4.length c0_4), .int .i64 a0_5, .int .i64 a0_6, .int .i64 a0_7, .int .i64 a0_8, .int .i64 a0_9, .int .i64 a0_10, .int .i64 a0_11, .int .i64 a0_12, .int .i64 a0_13, .int .i64 a0_14, .int .i64 a0_15, .int .i64 a0_16, .int .i64 a0_17, .int .i64 a0_18, .int .i64 a0_19, .int .i64 a0_20] 24 (0, 0))) ∧ Aside0 (Below w.heap.size w wc))
         case first => as_aux_lemma =>
          have H := HC65.out
          clear HC65
          by_cases c66 : x3_1 = true
          ·subst c66
           have H1 : (if x4_16 = true then (if x5_37 = true then (compositorref14_Check.j4 kj49 (!x6_49) a0_0 a0_1 a0_2 a0_3 l0_4 a0_5 a0_6 a0_7 a0_8 a0_9 a0_10 a0_11 a0_12 a0_13 a0_14 a0_15 a0_16 a0_17 a0_18 a0_19 a0_20) else (compositorref14_Check.j4 kj49 true a0_0 a0_1 a0_2 a0_3 l0_4 a0_5 a0_6 a0_7 a0_8 a0_9 a0_10 a0_11 a0_12 a0_13 a0_14 a0_15 a0_16 a0_17 a0_18 a0_19 a0_20)) else (compositorref14_Check.j4 kj49 true a0_0 a0_1 a0_2 a0_3 l0_4 a0_5 a0_6 a0_7 a0_8 a0_9 a0_10 a0_11 a0_12 a0_13 a0_14 a0_15 a0_16 a0_17 a0_18 a0_19 a0_20)) = some r := by rw [if_pos rfl] at H; exact H
           clear H
           have H := H1
           clear H1
           by_cases c67 : x4_16 = true
           ·subst c67
            have H1 : (if x5_37 = true then (compositorref14_Check.j4 kj49 (!x6_49) a0_0 a0_1 a0_2 a0_3 l0_4 a0_5 a0_6 a0_7 a0_8 a0_9 a0_10 a0_11 a0_12 a0_13 a0_14 a0_15 a0_16 a0_17 a0_18 a0_19 a0_20) else (compositorref14_Check.j4 kj49 true a0_0 a0_1 a0_2 a0_3 l0_4 a0_5 a0_6 a0_7 a0_8 a0_9 a0_10 a0_11 a0_12 a0_13 a0_14 a0_15 a0_16 a0_17 a0_18 a0_19 a0_20)) = some r := by rw [if_pos rfl] at H; exact H
            clear H
            have H := H1
            clear H1
            by_cases c68 : x5_37 = true
            ·subst c68
             have H1 : (compositorref14_Check.j4 kj49 (!x6_49) a0_0 a0_1 a0_2 a0_3 l0_4 a0_5 a0_6 a0_7 a0_8 a0_9 a0_10 a0_11 a0_12 a0_13 a0_14 a0_15 a0_16 a0_17 a0_18 a0_19 a0_20) = some r := by rw [if_pos rfl] at H; exact H
             clear H
             have H := H1
             clear H1
             have H' := Aside0.mk H
             clear H
             go_wp2
             go_meet
             case rel => exact ⟨_, (!x6_49), (by first | rfl | (simp; done) | (simp [*]; done)), H', ⟨by have := HJ1.out; have := HJ16.out; have := HJ37.out; have := HJ49.out; first | omega | exact Nat.le_refl _⟩, ⟨by (with_reducible repeat (first | refine blk_drewN ?_ _ | refine blk_drew ?_ | refine blk_alloc ?_ _)); exact BK162.out⟩, ⟨by repeat (first | (with_reducible first | exact HB.out | apply below_alloc | apply pw_below_drewN | apply below_drew1 | refine below_set ?_ GE162.out) | exact HB.out)⟩⟩
            ·replace c68 := Bool.eq_false_iff.mpr c68
             subst c68
             have H1 : (compositorref14_Check.j4 kj49 true a0_0 a0_1 a0_2 a0_3 l0_4 a0_5 a0_6 a0_7 a0_8 a0_9 a0_10 a0_11 a0_12 a0_13 a0_14 a0_15 a0_16 a0_17 a0_18 a0_19 a0_20) = some r := by rw [if_neg (show ¬ (false = true) by decide)] at H; exact H
             clear H
             have H := H1
             clear H1
             have H' := Aside0.mk H
             clear H
             go_wp2
             go_meet
             case rel => exact ⟨_, (true), (by first | rfl | (simp; done) | (simp [*]; done)), H', ⟨by have := HJ1.out; have := HJ16.out; have := HJ37.out; have := HJ49.out; first | omega | exact Nat.le_refl _⟩, ⟨by (with_reducible repeat (first | refine blk_drewN ?_ _ | refine blk_drew ?_ | refine blk_alloc ?_ _)); exact BK162.out⟩, ⟨by repeat (first | (with_reducible first | exact HB.out | apply below_alloc | apply pw_below_drewN | apply below_drew1 | refine below_set ?_ GE162.out) | exact HB.out)⟩⟩
           ·replace c67 := Bool.eq_false_iff.mpr c67
            subst c67
            have H1 : (compositorref14_Check.j4 kj49 true a0_0 a0_1 a0_2 a0_3 l0_4 a0_5 a0_6 a0_7 a0_8 a0_9 a0_10 a0_11 a0_12 a0_13 a0_14 a0_15 a0_16 a0_17 a0_18 a0_19 a0_20) = some r := by rw [if_neg (show ¬ (false = true) by decide)] at H; exact H
            clear H
            have H := H1
            clear H1
            have H' := Aside0.mk H
            clear H
            go_wp2
            go_meet
            case rel => exact ⟨_, (true), (by first | rfl | (simp; done) | (simp [*]; done)), H', ⟨by have := HJ1.out; have := HJ16.out; have := HJ37.out; have := HJ49.out; first | omega | exact Nat.le_refl _⟩, ⟨by (with_reducible repeat (first | refine blk_drewN ?_ _ | refine blk_drew ?_ | refine blk_alloc ?_ _)); exact BK162.out⟩, ⟨by repeat (first | (with_reducible first | exact HB.out | apply below_alloc | apply pw_below_drewN | apply below_drew1 | refine below_set ?_ GE162.out) | exact HB.out)⟩⟩
          ·replace c66 := Bool.eq_false_iff.mpr c66
           subst c66
           have H1 : (compositorref14_Check.j4 kj49 true a0_0 a0_1 a0_2 a0_3 l0_4 a0_5 a0_6 a0_7 a0_8 a0_9 a0_10 a0_11 a0_12 a0_13 a0_14 a0_15 a0_16 a0_17 a0_18 a0_19 a0_20) = some r := by rw [if_neg (show ¬ (false = true) by decide)] at H; exact H
           clear H
           have H := H1
           clear H1
           have H' := Aside0.mk H
           clear H
           go_wp2
           go_meet
           case rel => exact ⟨_, (true), (by first | rfl | (simp; done) | (simp [*]; done)), H', ⟨by have := HJ1.out; have := HJ16.out; have := HJ37.out; have := HJ49.out; first | omega | exact Nat.le_refl _⟩, ⟨by (with_reducible repeat (first | refine blk_drewN ?_ _ | refine blk_drew ?_ | refine blk_alloc ?_ _)); exact BK162.out⟩, ⟨by repeat (first | (with_reducible first | exact HB.out | apply below_alloc | apply pw_below_drewN | apply below_drew1 | refine below_set ?_ GE162.out) | exact HB.out)⟩⟩
         case rest => as_aux_lemma =>
          clear HC65
          try clear c2
          try clear p2
          try clear c5
          try clear c6
          try clear c26
          try clear c52
          try clear c54
          try clear c56
          try clear c58
          try clear c66
          try clear c67
          try clear c68
          try clear hcz60_0
          try clear hcz60_1
          try clear hcz60_10
          try clear hcz60_11
          try clear hcz60_12
          try clear hcz60_13
          try clear hcz60_14
          try clear hcz60_15
          try clear hcz60_16
          try clear hcz60_17
          try clear hcz60_18
          try clear hcz60_19
          try clear hcz60_2
          try clear hcz60_20
          try clear hcz60_3
          try clear hcz60_4
          try clear hcz60_5
          try clear hcz60_6
          try clear hcz60_7
          try clear hcz60_8
          try clear hcz60_9
          try clear hcz61_0
          try clear hcz61_1
          try clear hcz61_10
          try clear hcz61_11
          try clear hcz61_12
          try clear hcz61_13
          try clear hcz61_14
          try clear hcz61_15
          try clear hcz61_16
          try clear hcz61_17
          try clear hcz61_18
          try clear hcz61_19
          try clear hcz61_2
          try clear hcz61_20
          try clear hcz61_3
          try clear hcz61_4
          try clear hcz61_5
          try clear hcz61_6
          try clear hcz61_7
          try clear hcz61_8
          try clear hcz61_9
          try clear hcz62_0
          try clear hcz62_1
          try clear hcz62_10
          try clear hcz62_11
          try clear hcz62_12
          try clear hcz62_13
          try clear hcz62_14
          try clear hcz62_15
          try clear hcz62_16
          try clear hcz62_17
          try clear hcz62_18
          try clear hcz62_19
          try clear hcz62_2
          try clear hcz62_20
          try clear hcz62_3
          try clear hcz62_4
          try clear hcz62_5
          try clear hcz62_6
          try clear hcz62_7
          try clear hcz62_8
          try clear hcz62_9
          try clear hcz63_0
          try clear hcz63_1
          try clear hcz63_10
          try clear hcz63_11
          try clear hcz63_12
          try clear hcz63_13
          try clear hcz63_14
          try clear hcz63_15
          try clear hcz63_16
          try clear hcz63_17
          try clear hcz63_18
          try clear hcz63_19
          try clear hcz63_2
          try clear hcz63_20
          try clear hcz63_3
          try clear hcz63_4
          try clear hcz63_5
          try clear hcz63_6
          try clear hcz63_7
          try clear hcz63_8
          try clear hcz63_9
          try clear hcz64_0
          try clear hcz64_1
          try clear hcz64_10
          try clear hcz64_11
          try clear hcz64_12
          try clear hcz64_13
          try clear hcz64_14
          try clear hcz64_15
          try clear hcz64_16
          try clear hcz64_17
          try clear hcz64_18
          try clear hcz64_19
          try clear hcz64_2
          try clear hcz64_20
          try clear hcz64_3
          try clear hcz64_4
          try clear hcz64_5
          try clear hcz64_6
          try clear hcz64_7
          try clear hcz64_8
          try clear hcz64_9
          try clear hfz14_7
          try clear hfz14_8
          try clear hfz14_9
          try clear hfz15_0
          try clear hfz15_1
          try clear hfz15_10
          try clear hfz15_11
          try clear hfz15_12
          try clear hfz15_13
          try clear hfz15_14
          try clear hfz15_15
          try clear hfz15_16
          try clear hfz15_17
          try clear hfz15_18
          try clear hfz15_19
          try clear hfz15_2
          try clear hfz15_20
          try clear hfz15_3
          try clear hfz15_4
          try clear hfz15_5
          try clear hfz15_6
          try clear hfz15_7
          try clear hfz15_8
          try clear hfz15_9
          try clear hfz16_0
          try clear hfz16_1
          try clear hfz16_10
          try clear hfz16_11
          try clear hfz16_12
          try clear hfz16_13
          try clear hfz16_14
          try clear hfz16_15
          try clear hfz16_16
          try clear hfz16_17
          try clear hfz16_18
          try clear hfz16_19
          try clear hfz16_2
          try clear hfz16_20
          try clear hfz16_3
          try clear hfz16_4
          try clear hfz16_5
          try clear hfz16_6
          try clear hfz16_7
          try clear hfz16_8
          try clear hfz16_9
          try clear hfz31_0
          try clear hfz31_1
          try clear hfz31_10
          try clear hfz31_11
          try clear hfz31_12
          try clear hfz31_13
          try clear hfz31_14
          try clear hfz31_15
          try clear hfz31_16
          try clear hfz31_17
          try clear hfz31_18
          try clear hfz31_19
          try clear hfz31_2
          try clear hfz31_20
          try clear hfz31_3
          try clear hfz31_4
          try clear hfz31_5
          try clear hfz31_6
          try clear hfz31_7
          try clear hfz31_8
          try clear hfz31_9
          try clear hfz32_0
          try clear hfz32_1
          try clear hfz32_10
          try clear hfz32_11
          try clear hfz32_12
          try clear hfz32_13
          try clear hfz32_14
          try clear hfz32_15
          try clear hfz32_16
          try clear hfz32_17
          try clear hfz32_18
          try clear hfz32_19
          try clear hfz32_2
          try clear hfz32_20
          try clear hfz32_3
          try clear hfz32_4
          try clear hfz32_5
          try clear hfz32_6
          try clear hfz32_7
          try clear hfz32_8
          try clear hfz32_9
          try clear hfz33_0
          try clear hfz33_1
          try clear hfz33_10
          try clear hfz33_11
          try clear hfz33_12
          try clear hfz33_13
          try clear hfz33_14
          try clear hfz33_15
          try clear hfz33_16
          try clear hfz33_17
          try clear hfz33_18
          try clear hfz33_19
          try clear hfz33_2
          try clear hfz33_20
          try clear hfz33_3
          try clear hfz33_4
          try clear hfz33_5
          try clear hfz33_6
          try clear hfz33_7
          try clear hfz33_8
          try clear hfz33_9
          try clear hfz34_0
          try clear hfz34_1
          try clear hfz34_10
          try clear hfz34_11
          try clear hfz34_12
          try clear hfz34_13
          try clear hfz34_14
          try clear hfz34_15
          try clear hfz34_16
          try clear hfz34_17
          try clear hfz34_18
          try clear hfz34_19
          try clear hfz34_2
          try clear hfz34_20
          try clear hfz34_3
          try clear hfz34_4
          try clear hfz34_5
          try clear hfz34_6
          try clear hfz34_7
          try clear hfz34_8
          try clear hfz34_9
          try clear hfz35_0
          try clear hfz35_1
          try clear hfz35_10
          try clear hfz35_11
          try clear hfz35_12
          try clear hfz35_13
          try clear hfz35_14
          try clear hfz35_15
          try clear hfz35_16
          try clear hfz35_17
          try clear hfz35_18
          try clear hfz35_19
          try clear hfz35_2
          try clear hfz35_20
          try clear hfz35_3
          try clear hfz35_4
          try clear hfz35_5
          try clear hfz35_6
          try clear hfz35_7
          try clear hfz35_8
          try clear hfz35_9
          try clear hfz36_0
          try clear hfz36_1
          try clear hfz36_10
          try clear hfz36_11
          try clear hfz36_12
          try clear hfz36_13
          try clear hfz36_14
          try clear hfz36_15
          try clear hfz36_16
          try clear hfz36_17
          try clear hfz36_18
          try clear hfz36_19
          try clear hfz36_2
          try clear hfz36_20
          try clear hfz36_3
          try clear hfz36_4
          try clear hfz36_5
          try clear hfz36_6
          try clear hfz36_7
          try clear hfz36_8
          try clear hfz36_9
          try clear hfz37_0
          try clear hfz37_1
          try clear hfz37_10
          try clear hfz37_11
          try clear hfz37_12
          try clear hfz37_13
          try clear hfz37_14
          try clear hfz37_15
          try clear hfz37_16
          try clear hfz37_17
          try clear hfz37_18
          try clear hfz37_19
          try clear hfz37_2
          try clear hfz37_20
          try clear hfz37_3
          try clear hfz37_4
          try clear hfz37_5
          try clear hfz37_6
          try clear hfz37_7
          try clear hfz37_8
          try clear hfz37_9
          try clear hfz46_0
          try clear hfz46_1
          try clear hfz46_10
          try clear hfz46_11
          try clear hfz46_12
          try clear hfz46_13
          try clear hfz46_14
          try clear hfz46_15
          try clear hfz46_16
          try clear hfz46_17
          try clear hfz46_18
          try clear hfz46_19
          try clear hfz46_2
          try clear hfz46_20
          try clear hfz46_3
          try clear hfz46_4
          try clear hfz46_5
          try clear hfz46_6
          try clear hfz46_7
          try clear hfz46_8
          try clear hfz46_9
          try clear hfz47_0
          try clear hfz47_1
          try clear hfz47_10
          try clear hfz47_11
          try clear hfz47_12
          try clear hfz47_13
          try clear hfz47_14
          try clear hfz47_15
          try clear hfz47_16
          try clear hfz47_17
          try clear hfz47_18
          try clear hfz47_19
          try clear hfz47_2
          try clear hfz47_20
          try clear hfz47_3
          try clear hfz47_4
          try clear hfz47_5
          try clear hfz47_6
          try clear hfz47_7
          try clear hfz47_8
          try clear hfz47_9
          try clear hfz48_0
          try clear hfz48_1
          try clear hfz48_10
          try clear hfz48_11
          try clear hfz48_12
          try clear hfz48_13
          try clear hfz48_14
          try clear hfz48_15
          try clear hfz48_16
          try clear hfz48_17
          try clear hfz48_18
          try clear hfz48_19
          try clear hfz48_2
          try clear hfz48_20
          try clear hfz48_3
          try clear hfz48_4
          try clear hfz48_5
          try clear hfz48_6
          try clear hfz48_7
          try clear hfz48_8
          try clear hfz48_9
          try clear hfz49_0
          try clear hfz49_1
          try clear hfz49_10
          try clear hfz49_11
          try clear hfz49_12
          try clear hfz49_13
          try clear hfz49_14
          try clear hfz49_15
          try clear hfz49_16
          try clear hfz49_17
          try clear hfz49_18
          try clear hfz49_19
          try clear hfz49_2
          try clear hfz49_20
          try clear hfz49_3
          try clear hfz49_4
          try clear hfz49_5
          try clear hfz49_6
          try clear hfz49_7
          try clear hfz49_8
          try clear hfz49_9
          try clear hfz60_0
          try clear hfz60_1
          try clear hfz60_10
          try clear hfz60_11
          try clear hfz60_12
          try clear hfz60_13
          try clear hfz60_14
          try clear hfz60_15
          try clear hfz60_16
          try clear hfz60_17
          try clear hfz60_18
          try clear hfz60_19
          try clear hfz60_2
          try clear hfz60_20
          try clear hfz60_3
          try clear hfz60_4
          try clear hfz60_5
          try clear hfz60_6
          try clear hfz60_7
          try clear hfz60_8
          try clear hfz60_9
          try clear hfz61_0
          try clear hfz61_1
          try clear hfz61_10
          try clear hfz61_11
          try clear hfz61_12
          try clear hfz61_13
          try clear hfz61_14
          try clear hfz61_15
          try clear hfz61_16
          try clear hfz61_17
          try clear hfz61_18
          try clear hfz61_19
          try clear hfz61_2
          try clear hfz61_20
          try clear hfz61_3
          try clear hfz61_4
          try clear hfz61_5
          try clear hfz61_6
          try clear hfz61_7
          try clear hfz61_8
          try clear hfz61_9
          try clear hfz62_0
          try clear hfz62_1
          try clear hfz62_10
          try clear hfz62_11
          try clear hfz62_12
          try clear hfz62_13
          try clear hfz62_14
          try clear hfz62_15
          try clear hfz62_16
          try clear hfz62_17
          try clear hfz62_18
          try clear hfz62_19
          try clear hfz62_2
          try clear hfz62_20
          try clear hfz62_3
          try clear hfz62_4
          try clear hfz62_5
          try clear hfz62_6
          try clear hfz62_7
          try clear hfz62_8
          try clear hfz62_9
          try clear hfz63_0
          try clear hfz63_1
          try clear hfz63_10
          try clear hfz63_11
          try clear hfz63_12
          try clear hfz63_13
          try clear hfz63_14
          try clear hfz63_15
          try clear hfz63_16
          try clear hfz63_17
          try clear hfz63_18
          try clear hfz63_19
          try clear hfz63_2
          try clear hfz63_20
          try clear hfz63_3
          try clear hfz63_4
          try clear hfz63_5
          try clear hfz63_6
          try clear hfz63_7
          try clear hfz63_8
          try clear hfz63_9
          try clear hfz64_0
          try clear hfz64_1
          try clear hfz64_10
          try clear hfz64_11
          try clear hfz64_12
          try clear hfz64_13
          try clear hfz64_14
          try clear hfz64_15
          try clear hfz64_16
          try clear hfz64_17
          try clear hfz64_18
          try clear hfz64_19
          try clear hfz64_2
          try clear hfz64_20
          try clear hfz64_3
          try clear hfz64_4
          try clear hfz64_5
          try clear hfz64_6
          try clear hfz64_7
          try clear hfz64_8
          try clear hfz64_9
          try clear p2
          obtain ⟨kq, x125_64, rfl, HA, HJ64, BK162, HB⟩ := hcut
          cases kq with
          | zero => exact absurd HA.out (by simp [compositorref14_Check.j4])
          | succ kj64 =>
           have H := HA.out
           clear HA
           simp only [compositorref14_Check.j4] at H
           by_cases c69 : x125_64 = true
           ·subst c69
            have H1 : (some false) = some r := by rw [if_pos rfl] at H; exact H
            clear H
            have H := H1
            clear H1
            obtain rfl := Option.some.inj H
            go_wp2
            go_ret
            exact ⟨by first | rfl | (simp [errW_none, errW_some] <;> rfl) | (simp [*, errW_none, errW_some] <;> rfl), by repeat (first | (with_reducible first | exact HB.out | apply below_alloc | apply pw_below_drewN | apply below_drew1 | refine below_set ?_ GE162.out) | exact HB.out)⟩
           ·replace c69 := Bool.eq_false_iff.mpr c69
            subst c69
            have H1 : (compositorref14_Check.l0 kj64 0 a0_0 a0_1 a0_2 a0_3 l0_4 a0_5 a0_6 a0_7 a0_8 a0_9 a0_10 a0_11 a0_12 a0_13 a0_14 a0_15 a0_16 a0_17 a0_18 a0_19 a0_20) = some r := by rw [if_neg (show ¬ (false = true) by decide)] at H; exact H
            clear H
            have H := H1
            clear H1
            have H' := Aside0.mk H
            clear H
            go_wp2
            go_loopg [7] kj64 (fun kq v7 w' => ∃ (x7_6 : Int), v7 = .int .i64 x7_6 ∧ Aside0 (compositorref14_Check.l0 kq x7_6 a0_0 a0_1 a0_2 a0_3 l0_4 a0_5 a0_6 a0_7 a0_8 a0_9 a0_10 a0_11 a0_12 a0_13 a0_14 a0_15 a0_16 a0_17 a0_18 a0_19 a0_20 = some r) ∧ Aside0 (kq ≤ kj64) ∧ Aside0 (w'.heap[gb162]? = some (.cells #[.int .i64 a0_0, .int .i64 a0_1, .int .i64 a0_2, .int .i64 a0_3, (.slice A0_4 l0_4.length c0_4), .int .i64 a0_5, .int .i64 a0_6, .int .i64 a0_7, .int .i64 a0_8, .int .i64 a0_9, .int .i64 a0_10, .int .i64 a0_11, .int .i64 a0_12, .int .i64 a0_13, .int .i64 a0_14, .int .i64 a0_15, .int .i64 a0_16, .int .i64 a0_17, .int .i64 a0_18, .int .i64 a0_19, .int .i64 a0_20] 24 (0, 0))) ∧ Aside0 (Below w.heap.size w w'))
            case atStart => exact ⟨(0), (by first | rfl | (simp; done) | (simp [*]; done)), H', ⟨Nat.le_refl _⟩, ⟨by (with_reducible repeat (first | refine blk_drewN ?_ _ | refine blk_drew ?_ | refine blk_alloc ?_ _)); exact BK162.out⟩, ⟨by repeat (first | (with_reducible first | exact HB.out | apply below_alloc | apply pw_below_drewN | apply below_drew1 | refine below_set ?_ GE162.out) | exact HB.out)⟩⟩
            case round =>
             clear H'
             try clear c2
             try clear p2
             try clear c5
             try clear c6
             try clear c26
             try clear c52
             try clear c54
             try clear c56
             try clear c58
             try clear c66
             try clear c67
             try clear c68
             try clear c69
             try clear hcz60_0
             try clear hcz60_1
             try clear hcz60_10
             try clear hcz60_11
             try clear hcz60_12
             try clear hcz60_13
             try clear hcz60_14
             try clear hcz60_15
             try clear hcz60_16
             try clear hcz60_17
             try clear hcz60_18
             try clear hcz60_19
             try clear hcz60_2
             try clear hcz60_20
             try clear hcz60_3
             try clear hcz60_4
             try clear hcz60_5
             try clear hcz60_6
             try clear hcz60_7
             try clear hcz60_8
             try clear hcz60_9
             try clear hcz61_0
             try clear hcz61_1
             try clear hcz61_10
             try clear hcz61_11
             try clear hcz61_12
             try clear hcz61_13
             try clear hcz61_14
             try clear hcz61_15
             try clear hcz61_16
             try clear hcz61_17
             try clear hcz61_18
             try clear hcz61_19
             try clear hcz61_2
             try clear hcz61_20
             try clear hcz61_3
             try clear hcz61_4
             try clear hcz61_5
             try clear hcz61_6
             try clear hcz61_7
             try clear hcz61_8
             try clear hcz61_9
             try clear hcz62_0
             try clear hcz62_1
             try clear hcz62_10
             try clear hcz62_11
             try clear hcz62_12
             try clear hcz62_13
             try clear hcz62_14
             try clear hcz62_15
             try clear hcz62_16
             try clear hcz62_17
             try clear hcz62_18
             try clear hcz62_19
             try clear hcz62_2
             try clear hcz62_20
             try clear hcz62_3
             try clear hcz62_4
             try clear hcz62_5
             try clear hcz62_6
             try clear hcz62_7
             try clear hcz62_8
             try clear hcz62_9
             try clear hcz63_0
             try clear hcz63_1
             try clear hcz63_10
             try clear hcz63_11
             try clear hcz63_12
             try clear hcz63_13
             try clear hcz63_14
             try clear hcz63_15
             try clear hcz63_16
             try clear hcz63_17
             try clear hcz63_18
             try clear hcz63_19
             try clear hcz63_2
             try clear hcz63_20
             try clear hcz63_3
             try clear hcz63_4
             try clear hcz63_5
             try clear hcz63_6
             try clear hcz63_7
             try clear hcz63_8
             try clear hcz63_9
             try clear hcz64_0
             try clear hcz64_1
             try clear hcz64_10
             try clear hcz64_11
             try clear hcz64_12
             try clear hcz64_13
             try clear hcz64_14
             try clear hcz64_15
             try clear hcz64_16
             try clear hcz64_17
             try clear hcz64_18
             try clear hcz64_19
             try clear hcz64_2
             try clear hcz64_20
             try clear hcz64_3
             try clear hcz64_4
             try clear hcz64_5
             try clear hcz64_6
             try clear hcz64_7
             try clear hcz64_8
             try clear hcz64_9
             try clear hfz14_7
             try clear hfz14_8
             try clear hfz14_9
             try clear hfz15_0
             try clear hfz15_1
             try clear hfz15_10
             try clear hfz15_11
             try clear hfz15_12
             try clear hfz15_13
             try clear hfz15_14
             try clear hfz15_15
             try clear hfz15_16
             try clear hfz15_17
             try clear hfz15_18
             try clear hfz15_19
             try clear hfz15_2
             try clear hfz15_20
             try clear hfz15_3
             try clear hfz15_4
             try clear hfz15_5
             try clear hfz15_6
             try clear hfz15_7
             try clear hfz15_8
             try clear hfz15_9
             try clear hfz16_0
             try clear hfz16_1
             try clear hfz16_10
             try clear hfz16_11
             try clear hfz16_12
             try clear hfz16_13
             try clear hfz16_14
             try clear hfz16_15
             try clear hfz16_16
             try clear hfz16_17
             try clear hfz16_18
             try clear hfz16_19
             try clear hfz16_2
             try clear hfz16_20
             try clear hfz16_3
             try clear hfz16_4
             try clear hfz16_5
             try clear hfz16_6
             try clear hfz16_7
             try clear hfz16_8
             try clear hfz16_9
             try clear hfz31_0
             try clear hfz31_1
             try clear hfz31_10
             try clear hfz31_11
             try clear hfz31_12
             try clear hfz31_13
             try clear hfz31_14
             try clear hfz31_15
             try clear hfz31_16
             try clear hfz31_17
             try clear hfz31_18
             try clear hfz31_19
             try clear hfz31_2
             try clear hfz31_20
             try clear hfz31_3
             try clear hfz31_4
             try clear hfz31_5
             try clear hfz31_6
             try clear hfz31_7
             try clear hfz31_8
             try clear hfz31_9
             try clear hfz32_0
             try clear hfz32_1
             try clear hfz32_10
             try clear hfz32_11
             try clear hfz32_12
             try clear hfz32_13
             try clear hfz32_14
             try clear hfz32_15
             try clear hfz32_16
             try clear hfz32_17
             try clear hfz32_18
             try clear hfz32_19
             try clear hfz32_2
             try clear hfz32_20
             try clear hfz32_3
             try clear hfz32_4
             try clear hfz32_5
             try clear hfz32_6
             try clear hfz32_7
             try clear hfz32_8
             try clear hfz32_9
             try clear hfz33_0
             try clear hfz33_1
             try clear hfz33_10
             try clear hfz33_11
             try clear hfz33_12
             try clear hfz33_13
             try clear hfz33_14
             try clear hfz33_15
             try clear hfz33_16
             try clear hfz33_17
             try clear hfz33_18
             try clear hfz33_19
             try clear hfz33_2
             try clear hfz33_20
             try clear hfz33_3
             try clear hfz33_4
             try clear hfz33_5
             try clear hfz33_6
             try clear hfz33_7
             try clear hfz33_8
             try clear hfz33_9
             try clear hfz34_0
             try clear hfz34_1
             try clear hfz34_10
             try clear hfz34_11
             try clear hfz34_12
             try clear hfz34_13
             try clear hfz34_14
             try clear hfz34_15
             try clear hfz34_16
             try clear hfz34_17
             try clear hfz34_18
             try clear hfz34_19
             try clear hfz34_2
             try clear hfz34_20
             try clear hfz34_3
             try clear hfz34_4
             try clear hfz34_5
             try clear hfz34_6
             try clear hfz34_7
             try clear hfz34_8
             try clear hfz34_9
             try clear hfz35_0
             try clear hfz35_1
             try clear hfz35_10
             try clear hfz35_11
             try clear hfz35_12
             try clear hfz35_13
             try clear hfz35_14
             try clear hfz35_15
             try clear hfz35_16
             try clear hfz35_17
             try clear hfz35_18
             try clear hfz35_19
             try clear hfz35_2
             try clear hfz35_20
             try clear hfz35_3
             try clear hfz35_4
             try clear hfz35_5
             try clear hfz35_6
             try clear hfz35_7
             try clear hfz35_8
             try clear hfz35_9
             try clear hfz36_0
             try clear hfz36_1
             try clear hfz36_10
             try clear hfz36_11
             try clear hfz36_12
             try clear hfz36_13
             try clear hfz36_14
             try clear hfz36_15
             try clear hfz36_16
             try clear hfz36_17
             try clear hfz36_18
             try clear hfz36_19
             try clear hfz36_2
             try clear hfz36_20
             try clear hfz36_3
             try clear hfz36_4
             try clear hfz36_5
             try clear hfz36_6
             try clear hfz36_7
             try clear hfz36_8
             try clear hfz36_9
             try clear hfz37_0
             try clear hfz37_1
             try clear hfz37_10
             try clear hfz37_11
             try clear hfz37_12
             try clear hfz37_13
             try clear hfz37_14
             try clear hfz37_15
             try clear hfz37_16
             try clear hfz37_17
             try clear hfz37_18
             try clear hfz37_19
             try clear hfz37_2
             try clear hfz37_20
             try clear hfz37_3
             try clear hfz37_4
             try clear hfz37_5
             try clear hfz37_6
             try clear hfz37_7
             try clear hfz37_8
             try clear hfz37_9
             try clear hfz46_0
             try clear hfz46_1
             try clear hfz46_10
             try clear hfz46_11
             try clear hfz46_12
             try clear hfz46_13
             try clear hfz46_14
             try clear hfz46_15
             try clear hfz46_16
             try clear hfz46_17
             try clear hfz46_18
             try clear hfz46_19
             try clear hfz46_2
             try clear hfz46_20
             try clear hfz46_3
             try clear hfz46_4
             try clear hfz46_5
             try clear hfz46_6
             try clear hfz46_7
             try clear hfz46_8
             try clear hfz46_9
             try clear hfz47_0
             try clear hfz47_1
             try clear hfz47_10
             try clear hfz47_11
             try clear hfz47_12
             try clear hfz47_13
             try clear hfz47_14
             try clear hfz47_15
             try clear hfz47_16
             try clear hfz47_17
             try clear hfz47_18
             try clear hfz47_19
             try clear hfz47_2
             try clear hfz47_20
             try clear hfz47_3
             try clear hfz47_4
             try clear hfz47_5
             try clear hfz47_6
             try clear hfz47_7
             try clear hfz47_8
             try clear hfz47_9
             try clear hfz48_0
             try clear hfz48_1
             try clear hfz48_10
             try clear hfz48_11
             try clear hfz48_12
             try clear hfz48_13
             try clear hfz48_14
             try clear hfz48_15
             try clear hfz48_16
             try clear hfz48_17
             try clear hfz48_18
             try clear hfz48_19
             try clear hfz48_2
             try clear hfz48_20
             try clear hfz48_3
             try clear hfz48_4
             try clear hfz48_5
             try clear hfz48_6
             try clear hfz48_7
             try clear hfz48_8
             try clear hfz48_9
             try clear hfz49_0
             try clear hfz49_1
             try clear hfz49_10
             try clear hfz49_11
             try clear hfz49_12
             try clear hfz49_13
             try clear hfz49_14
             try clear hfz49_15
             try clear hfz49_16
             try clear hfz49_17
             try clear hfz49_18
             try clear hfz49_19
             try clear hfz49_2
             try clear hfz49_20
             try clear hfz49_3
             try clear hfz49_4
             try clear hfz49_5
             try clear hfz49_6
             try clear hfz49_7
             try clear hfz49_8
             try clear hfz49_9
             try clear hfz60_0
             try clear hfz60_1
             try clear hfz60_10
             try clear hfz60_11
             try clear hfz60_12
             try clear hfz60_13
             try clear hfz60_14
             try clear hfz60_15
             try clear hfz60_16
             try clear hfz60_17
             try clear hfz60_18
             try clear hfz60_19
             try clear hfz60_2
             try clear hfz60_20
             try clear hfz60_3
             try clear hfz60_4
             try clear hfz60_5
             try clear hfz60_6
             try clear hfz60_7
             try clear hfz60_8
             try clear hfz60_9
             try clear hfz61_0
             try clear hfz61_1
             try clear hfz61_10
             try clear hfz61_11
             try clear hfz61_12
             try clear hfz61_13
             try clear hfz61_14
             try clear hfz61_15
             try clear hfz61_16
             try clear hfz61_17
             try clear hfz61_18
             try clear hfz61_19
             try clear hfz61_2
             try clear hfz61_20
             try clear hfz61_3
             try clear hfz61_4
             try clear hfz61_5
             try clear hfz61_6
             try clear hfz61_7
             try clear hfz61_8
             try clear hfz61_9
             try clear hfz62_0
             try clear hfz62_1
             try clear hfz62_10
             try clear hfz62_11
             try clear hfz62_12
             try clear hfz62_13
             try clear hfz62_14
             try clear hfz62_15
             try clear hfz62_16
             try clear hfz62_17
             try clear hfz62_18
             try clear hfz62_19
             try clear hfz62_2
             try clear hfz62_20
             try clear hfz62_3
             try clear hfz62_4
             try clear hfz62_5
             try clear hfz62_6
             try clear hfz62_7
             try clear hfz62_8
             try clear hfz62_9
             try clear hfz63_0
             try clear hfz63_1
             try clear hfz63_10
             try clear hfz63_11
             try clear hfz63_12
             try clear hfz63_13
             try clear hfz63_14
             try clear hfz63_15
             try clear hfz63_16
             try clear hfz63_17
             try clear hfz63_18
             try clear hfz63_19
             try clear hfz63_2
             try clear hfz63_20
             try clear hfz63_3
             try clear hfz63_4
             try clear hfz63_5
             try clear hfz63_6
             try clear hfz63_7
             try clear hfz63_8
             try clear hfz63_9
             try clear hfz64_0
             try clear hfz64_1
             try clear hfz64_10
             try clear hfz64_11
             try clear hfz64_12
             try clear hfz64_13
             try clear hfz64_14
             try clear hfz64_15
             try clear hfz64_16
             try clear hfz64_17
             try clear hfz64_18
             try clear hfz64_19
             try clear hfz64_2
             try clear hfz64_20
             try clear hfz64_3
             try clear hfz64_4
             try clear hfz64_5
             try clear hfz64_6
             try clear hfz64_7
             try clear hfz64_8
             try clear hfz64_9
             try clear p2
             obtain ⟨x7_6, rfl, HA, HK6, BK162, HB⟩ := hrel
             cases gk with
             | zero => exact absurd HA.out (by simp [compositorref14_Check.l0])
             | succ k6 =>
              have H := HA.out
              clear HA
              simp only [compositorref14_Check.l0] at H
              by_cases c70 : x7_6 < (l0_4.length : Int)
              ·rw [if_pos c70] at H
               have c70b0 : decide (x7_6 < (l0_4.length : Int)) = true := decide_eq_true c70
               clear c70
               by_cases c71 : 0 ≤ x7_6
               ·rw [if_pos c71] at H
                have c71b0 : decide (0 ≤ x7_6) = true := decide_eq_true c71
                clear c71
                replace H := Option.bind_eq_some_iff.mp H
                obtain ⟨t184, A720, H⟩ := H
                replace H : (if t184 = true then ((compositorref14_in.f ((rd_T47 l0_4 x7_6).f1) 1 67108864).bind fun t186 => (if t186 = true then (compositorref14_Check.l0 k6 (wrap64 (x7_6 + 1)) a0_0 a0_1 a0_2 a0_3 l0_4 a0_5 a0_6 a0_7 a0_8 a0_9 a0_10 a0_11 a0_12 a0_13 a0_14 a0_15 a0_16 a0_17 a0_18 a0_19 a0_20) else (some false))) else (some false)) = some r := H
                have A72 := Aside0.mk A720
                clear A720
                by_cases c73 : t184 = true
                ·subst c73
                 have H1 : ((compositorref14_in.f ((rd_T47 l0_4 x7_6).f1) 1 67108864).bind fun t186 => (if t186 = true then (compositorref14_Check.l0 k6 (wrap64 (x7_6 + 1)) a0_0 a0_1 a0_2 a0_3 l0_4 a0_5 a0_6 a0_7 a0_8 a0_9 a0_10 a0_11 a0_12 a0_13 a0_14 a0_15 a0_16 a0_17 a0_18 a0_19 a0_20) else (some false))) = some r := by rw [if_pos rfl] at H; exact H
                 clear H
                 have H := H1
                 clear H1
                 replace H := Option.bind_eq_some_iff.mp H
                 obtain ⟨t186, A740, H⟩ := H
                 replace H : (if t186 = true then (compositorref14_Check.l0 k6 (wrap64 (x7_6 + 1)) a0_0 a0_1 a0_2 a0_3 l0_4 a0_5 a0_6 a0_7 a0_8 a0_9 a0_10 a0_11 a0_12 a0_13 a0_14 a0_15 a0_16 a0_17 a0_18 a0_19 a0_20) else (some false)) = some r := H
                 have A74 := Aside0.mk A740
                 clear A740
                 by_cases c75 : t186 = true
                 ·subst c75
                  have H1 : (compositorref14_Check.l0 k6 (wrap64 (x7_6 + 1)) a0_0 a0_1 a0_2 a0_3 l0_4 a0_5 a0_6 a0_7 a0_8 a0_9 a0_10 a0_11 a0_12 a0_13 a0_14 a0_15 a0_16 a0_17 a0_18 a0_19 a0_20) = some r := by rw [if_pos rfl] at H; exact H
                  clear H
                  have H := H1
                  clear H1
                  have H' := Aside0.mk H
                  clear H
                  have hcz76_0 := blk_cell BK162.out
                  have hfz76_0 := blk_frozen BK162.out
                  have p183 : 0 ≤ (x7_6 : Int) := of_decide_eq_true (by first | (with_reducible assumption) | assumption)
                  have q183 : x7_6 < (l0_4.length : Int) := of_decide_eq_true (by first | (with_reducible assumption) | assumption)
                  obtain ⟨ad183, e183, hx183_0, hx183_1⟩ := at_T47 HR0_4.out x7_6 p183 q183
                  cases e183
                  replace hx183_0 := (HB.out.cell (World.block_lt_of_cell? w _ hx183_0)).trans hx183_0
                  replace hx183_1 := (HB.out.cell (World.block_lt_of_cell? w _ hx183_1)).trans hx183_1
                  replace p183 := eq_true p183
                  replace q183 := eq_true q183
                  have tk_ : True := trivial
                  go_wp2_with (first | ((with_reducible refine gate_load (T := 24) rfl ?_); refine load_row_event (by first | rfl | (go_simp; done)) 24 _ rfl gb162 rfl 24 _ (0, 0) _ (by (with_reducible repeat (first | refine blk_drewN ?_ _ | refine blk_drew ?_ | refine blk_alloc ?_ _)); first | with_reducible exact BK162.out) hu24 rfl (by kernel_rfl) ?_) | ((with_reducible refine gate_store (t := 24) rfl ?_); refine store_row_event (base := w.heap.size) rfl rfl 24 _ _ rfl (g := gb162) (by rfl) (by rfl) (by (with_reducible repeat (first | refine blk_drewN ?_ _ | refine blk_drew ?_ | refine blk_alloc ?_ _)); exact BK162.out) (by kernel_rfl) (by rfl) (by rfl) GE162.out ?_; intro ws_ hs_ hk_ hb_; have n0_ := Aside0.mk (Below.trans (by repeat (first | (with_reducible first | exact HB.out | apply below_alloc | apply pw_below_drewN | apply below_drew1) | exact HB.out)) hb_); clear HB; have HB := n0_; clear n0_; clear BK162; have BK162 := Aside0.mk hs_; clear hs_; have hxs_ := blk_cell BK162.out; have hys_ := blk_frozen BK162.out; clear hk_ hb_) | (go_at_call 26; clear tk_; (with_reducible refine (compositorref14_in.calls ((rd_T47 l0_4 x7_6).f0) 0 67108864 true _ A72.out).mono ?_); rintro e w' ⟨rfl, ⟨nd, rfl⟩⟩; have p185 : 0 ≤ (x7_6 : Int) := of_decide_eq_true (by first | (with_reducible assumption) | assumption); have q185 : x7_6 < (l0_4.length : Int) := of_decide_eq_true (by first | (with_reducible assumption) | assumption); obtain ⟨ad185, e185, hx185_0, hx185_1⟩ := at_T47 HR0_4.out x7_6 p185 q185; obtain rfl : ad183 = ad185 := (by injection e185); replace hx185_0 := (HB.out.cell (World.block_lt_of_cell? w _ hx185_0)).trans hx185_0; replace hx185_1 := (HB.out.cell (World.block_lt_of_cell? w _ hx185_1)).trans hx185_1; replace p185 := eq_true p185; replace q185 := eq_true q185))
                  as_aux_lemma =>
                  have tk_ : True := trivial
                  go_wp2_with (first | ((with_reducible refine gate_load (T := 24) rfl ?_); refine load_row_event (by first | rfl | (go_simp; done)) 24 _ rfl gb162 rfl 24 _ (0, 0) _ (by (with_reducible repeat (first | refine blk_drewN ?_ _ | refine blk_drew ?_ | refine blk_alloc ?_ _)); first | with_reducible exact BK162.out) hu24 rfl (by kernel_rfl) ?_) | ((with_reducible refine gate_store (t := 24) rfl ?_); refine store_row_event (base := w.heap.size) rfl rfl 24 _ _ rfl (g := gb162) (by rfl) (by rfl) (by (with_reducible repeat (first | refine blk_drewN ?_ _ | refine blk_drew ?_ | refine blk_alloc ?_ _)); exact BK162.out) (by kernel_rfl) (by rfl) (by rfl) GE162.out ?_; intro ws_ hs_ hk_ hb_; have n0_ := Aside0.mk (Below.trans (by repeat (first | (with_reducible first | exact HB.out | apply below_alloc | apply pw_below_drewN | apply below_drew1) | exact HB.out)) hb_); clear HB; have HB := n0_; clear n0_; clear BK162; have BK162 := Aside0.mk hs_; clear hs_; have hxs_ := blk_cell BK162.out; have hys_ := blk_frozen BK162.out; clear hk_ hb_) | (go_at_call 26; clear tk_; (with_reducible refine (compositorref14_in.calls ((rd_T47 l0_4 x7_6).f1) 1 67108864 true _ A74.out).mono ?_); rintro e w' ⟨rfl, ⟨nd, rfl⟩⟩))
                  go_roundg k6
                  case measure => have := HJ1.out; have := HJ16.out; have := HJ37.out; have := HJ49.out; have := HJ64.out; have := HK6.out; omega
                  case rel => exact ⟨(wrap64 (x7_6 + 1)), (by first | rfl | (simp; done) | (simp [*]; done)), H', ⟨by have := HJ1.out; have := HJ16.out; have := HJ37.out; have := HJ49.out; have := HJ64.out; have := HK6.out; omega⟩, ⟨by (with_reducible repeat (first | refine blk_drewN ?_ _ | refine blk_drew ?_ | refine blk_alloc ?_ _)); exact BK162.out⟩, ⟨by repeat (first | (with_reducible first | exact HB.out | apply below_alloc | apply pw_below_drewN | apply below_drew1 | refine below_set ?_ GE162.out) | exact HB.out)⟩⟩
                 ·replace c75 := Bool.eq_false_iff.mpr c75
                  subst c75
                  have H1 : (some false) = some r := by rw [if_neg (show ¬ (false = true) by decide)] at H; exact H
                  clear H
                  have H := H1
                  clear H1
                  obtain rfl := Option.some.inj H
                  have hcz77_0 := blk_cell BK162.out
                  have hfz77_0 := blk_frozen BK162.out
                  have p183 : 0 ≤ (x7_6 : Int) := of_decide_eq_true (by first | (with_reducible assumption) | assumption)
                  have q183 : x7_6 < (l0_4.length : Int) := of_decide_eq_true (by first | (with_reducible assumption) | assumption)
                  obtain ⟨ad183, e183, hx183_0, hx183_1⟩ := at_T47 HR0_4.out x7_6 p183 q183
                  cases e183
                  replace hx183_0 := (HB.out.cell (World.block_lt_of_cell? w _ hx183_0)).trans hx183_0
                  replace hx183_1 := (HB.out.cell (World.block_lt_of_cell? w _ hx183_1)).trans hx183_1
                  replace p183 := eq_true p183
                  replace q183 := eq_true q183
                  have tk_ : True := trivial
                  go_wp2_with (first | ((with_reducible refine gate_load (T := 24) rfl ?_); refine load_row_event (by first | rfl | (go_simp; done)) 24 _ rfl gb162 rfl 24 _ (0, 0) _ (by (with_reducible repeat (first | refine blk_drewN ?_ _ | refine blk_drew ?_ | refine blk_alloc ?_ _)); first | with_reducible exact BK162.out) hu24 rfl (by kernel_rfl) ?_) | ((with_reducible refine gate_store (t := 24) rfl ?_); refine store_row_event (base := w.heap.size) rfl rfl 24 _ _ rfl (g := gb162) (by rfl) (by rfl) (by (with_reducible repeat (first | refine blk_drewN ?_ _ | refine blk_drew ?_ | refine blk_alloc ?_ _)); exact BK162.out) (by kernel_rfl) (by rfl) (by rfl) GE162.out ?_; intro ws_ hs_ hk_ hb_; have n0_ := Aside0.mk (Below.trans (by repeat (first | (with_reducible first | exact HB.out | apply below_alloc | apply pw_below_drewN | apply below_drew1) | exact HB.out)) hb_); clear HB; have HB := n0_; clear n0_; clear BK162; have BK162 := Aside0.mk hs_; clear hs_; have hxs_ := blk_cell BK162.out; have hys_ := blk_frozen BK162.out; clear hk_ hb_) | (go_at_call 26; clear tk_; (with_reducible refine (compositorref14_in.calls ((rd_T47 l0_4 x7_6).f0) 0 67108864 true _ A72.out).mono ?_); rintro e w' ⟨rfl, ⟨nd, rfl⟩⟩; have p185 : 0 ≤ (x7_6 : Int) := of_decide_eq_true (by first | (with_reducible assumption) | assumption); have q185 : x7_6 < (l0_4.length : Int) := of_decide_eq_true (by first | (with_reducible assumption) | assumption); obtain ⟨ad185, e185, hx185_0, hx185_1⟩ := at_T47 HR0_4.out x7_6 p185 q185; obtain rfl : ad183 = ad185 := (by injection e185); replace hx185_0 := (HB.out.cell (World.block_lt_of_cell? w _ hx185_0)).trans hx185_0; replace hx185_1 := (HB.out.cell (World.block_lt_of_cell? w _ hx185_1)).trans hx185_1; replace p185 := eq_true p185; replace q185 := eq_true q185))
                  as_aux_lemma =>
                  have tk_ : True := trivial
                  go_wp2_with (first | ((with_reducible refine gate_load (T := 24) rfl ?_); refine load_row_event (by first | rfl | (go_simp; done)) 24 _ rfl gb162 rfl 24 _ (0, 0) _ (by (with_reducible repeat (first | refine blk_drewN ?_ _ | refine blk_drew ?_ | refine blk_alloc ?_ _)); first | with_reducible exact BK162.out) hu24 rfl (by kernel_rfl) ?_) | ((with_reducible refine gate_store (t := 24) rfl ?_); refine store_row_event (base := w.heap.size) rfl rfl 24 _ _ rfl (g := gb162) (by rfl) (by rfl) (by (with_reducible repeat (first | refine blk_drewN ?_ _ | refine blk_drew ?_ | refine blk_alloc ?_ _)); exact BK162.out) (by kernel_rfl) (by rfl) (by rfl) GE162.out ?_; intro ws_ hs_ hk_ hb_; have n0_ := Aside0.mk (Below.trans (by repeat (first | (with_reducible first | exact HB.out | apply below_alloc | apply pw_below_drewN | apply below_drew1) | exact HB.out)) hb_); clear HB; have HB := n0_; clear n0_; clear BK162; have BK162 := Aside0.mk hs_; clear hs_; have hxs_ := blk_cell BK162.out; have hys_ := blk_frozen BK162.out; clear hk_ hb_) | (go_at_call 26; clear tk_; (with_reducible refine (compositorref14_in.calls ((rd_T47 l0_4 x7_6).f1) 1 67108864 false _ A74.out).mono ?_); rintro e w' ⟨rfl, ⟨nd, rfl⟩⟩))
                  go_ret
                  exact ⟨by first | rfl | (simp [errW_none, errW_some] <;> rfl) | (simp [*, errW_none, errW_some] <;> rfl), by repeat (first | (with_reducible first | exact HB.out | apply below_alloc | apply pw_below_drewN | apply below_drew1 | refine below_set ?_ GE162.out) | exact HB.out)⟩
                ·replace c73 := Bool.eq_false_iff.mpr c73
                 subst c73
                 have H1 : (some false) = some r := by rw [if_neg (show ¬ (false = true) by decide)] at H; exact H
                 clear H
                 have H := H1
                 clear H1
                 obtain rfl := Option.some.inj H
                 have hcz78_0 := blk_cell BK162.out
                 have hfz78_0 := blk_frozen BK162.out
                 have p183 : 0 ≤ (x7_6 : Int) := of_decide_eq_true (by first | (with_reducible assumption) | assumption)
                 have q183 : x7_6 < (l0_4.length : Int) := of_decide_eq_true (by first | (with_reducible assumption) | assumption)
                 obtain ⟨ad183, e183, hx183_0, hx183_1⟩ := at_T47 HR0_4.out x7_6 p183 q183
                 cases e183
                 replace hx183_0 := (HB.out.cell (World.block_lt_of_cell? w _ hx183_0)).trans hx183_0
                 replace hx183_1 := (HB.out.cell (World.block_lt_of_cell? w _ hx183_1)).trans hx183_1
                 replace p183 := eq_true p183
                 replace q183 := eq_true q183
                 go_wp2_with (first | ((with_reducible refine gate_load (T := 24) rfl ?_); refine load_row_event (by first | rfl | (go_simp; done)) 24 _ rfl gb162 rfl 24 _ (0, 0) _ (by (with_reducible repeat (first | refine blk_drewN ?_ _ | refine blk_drew ?_ | refine blk_alloc ?_ _)); first | with_reducible exact BK162.out) hu24 rfl (by kernel_rfl) ?_) | ((with_reducible refine gate_store (t := 24) rfl ?_); refine store_row_event (base := w.heap.size) rfl rfl 24 _ _ rfl (g := gb162) (by rfl) (by rfl) (by (with_reducible repeat (first | refine blk_drewN ?_ _ | refine blk_drew ?_ | refine blk_alloc ?_ _)); exact BK162.out) (by kernel_rfl) (by rfl) (by rfl) GE162.out ?_; intro ws_ hs_ hk_ hb_; have n0_ := Aside0.mk (Below.trans (by repeat (first | (with_reducible first | exact HB.out | apply below_alloc | apply pw_below_drewN | apply below_drew1) | exact HB.out)) hb_); clear HB; have HB := n0_; clear n0_; clear BK162; have BK162 := Aside0.mk hs_; clear hs_; have hxs_ := blk_cell BK162.out; have hys_ := blk_frozen BK162.out; clear hk_ hb_) | ((with_reducible refine gate_callee (f := 26) rfl ?_); refine goesL_ (some 139) rfl rfl Try.func26 (by kernel_rfl) rfl #[.int .i64 ((rd_T47 l0_4 x7_6).f0), .int .i64 0, .int .i64 67108864] rfl (by (try simp only [List.map_toArray, List.map_cons, List.map_nil]); first | done | rfl | (simp only [List.length_drop, List.length_take]; rfl)) ?_; (with_reducible refine (compositorref14_in.calls ((rd_T47 l0_4 x7_6).f0) 0 67108864 false _ A72.out).mono ?_); rintro e w' ⟨rfl, ⟨nd, rfl⟩⟩; refine ⟨_, rfl, ?_⟩))
                 go_ret
                 exact ⟨by first | rfl | (simp [errW_none, errW_some] <;> rfl) | (simp [*, errW_none, errW_some] <;> rfl), by repeat (first | (with_reducible first | exact HB.out | apply below_alloc | apply pw_below_drewN | apply below_drew1 | refine below_set ?_ GE162.out) | exact HB.out)⟩
               ·rw [if_neg c71] at H
                exact absurd H (by simp)
              ·rw [if_neg c70] at H
               have c70b0 : decide (x7_6 < (l0_4.length : Int)) = false := decide_eq_false c70
               clear c70
               obtain rfl := Option.some.inj H
               have hcz79_0 := blk_cell BK162.out
               have hfz79_0 := blk_frozen BK162.out
               go_wp2
               go_ret
               exact ⟨by first | rfl | (simp [errW_none, errW_some] <;> rfl) | (simp [*, errW_none, errW_some] <;> rfl), by repeat (first | (with_reducible first | exact HB.out | apply below_alloc | apply pw_below_drewN | apply below_drew1 | refine below_set ?_ GE162.out) | exact HB.out)⟩

end Go.Proofs.Ytejpnfaaboicdaa.G
