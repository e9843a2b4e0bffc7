/- Contracts of the functions of this seat: what each call computes, as a plain Lean function. Made by this session's own generator. -/
import Derived.Test.YtejpnfaaboicdaaGx0
import Derived.Test.YtejpnfaaboicdaaGx4
import Derived.Test.YtejpnfaaboicdaaGx6
import Derived.Test.YtejpnfaaboicdaaGx7
import Derived.Test.YtejpnfaaboicdaaGx9
namespace Go.Proofs.Ytejpnfaaboicdaa.G
open Go.RowKit Go.Proofs.YtejpnfaaboicdaaMy Go.Proofs.YtejpnfaaboicdaaW.PrintWords Go.Proofs.YtejpnfaaboicdaaW.PrintLast Go.Proofs.YtejpnfaaboicdaaW.PrintMore
attribute [local go_sem] max2_int min2_int max_two min_two max_three min_three max_four min_four   -- for this text's walks alone
set_option linter.unusedVariables false
set_option linter.unusedSimpArgs false

/-! ### compositorlaw21_DemPlain: function 4 -/
mutual
def compositorlaw21_DemPlain.j0 : Nat → Int → Int → Int → Bool → Bool → Int → Int → Int → Int → List (S47) → Int → Int → Int → Int → Int → Int → Int → Int → Int → Int → Int → Int → Int → Int → Int → Int → Int → Int → Int → Int → Int → Int → Option (Bool)
 | 0, _, _, _, _, _, _, _, _, _, _, _, _, _, _, _, _, _, _, _, _, _, _, _, _, _, _, _, _, _, _, _, _ => none
 | k + 1, x1, x2, x5, x13, x34, x221000, x221001, x221002, x221003, x221004, x221005, x221006, x221007, x221008, x221009, x221010, x221011, x221012, x221013, x221014, x221015, x221016, x221017, x221018, x221019, x221020, x222000, x222001, x222002, x223000, x223001, x223002 => if x34 = true then (some x13) else (if (Int.tmod (wrap64 (x2)) 6) = 2 then (compositorlaw21_DemPlain.j1 k x5 x13 (Int.tmod (wrap64 (x1)) 10001) (Int.tmod (wrap64 (x2)) 6) 0 true x221000 x221001 x221002 x221003 x221004 x221005 x221006 x221007 x221008 x221009 x221010 x221011 x221012 x221013 x221014 x221015 x221016 x221017 x221018 x221019 x221020 x222000 x222001 x222002 x223000 x223001 x223002) else (compositorlaw21_DemPlain.j1 k x5 x13 (Int.tmod (wrap64 (x1)) 10001) (Int.tmod (wrap64 (x2)) 6) 0 ((Int.tmod (wrap64 (x2)) 6) == 3) x221000 x221001 x221002 x221003 x221004 x221005 x221006 x221007 x221008 x221009 x221010 x221011 x221012 x221013 x221014 x221015 x221016 x221017 x221018 x221019 x221020 x222000 x222001 x222002 x223000 x223001 x223002))
def compositorlaw21_DemPlain.j1 : Nat → Int → Bool → Int → Int → Int → Bool → Int → Int → Int → Int → List (S47) → Int → Int → Int → Int → Int → Int → Int → Int → Int → Int → Int → Int → Int → Int → Int → Int → Int → Int → Int → Int → Int → Int → Option (Bool)
 | 0, _, _, _, _, _, _, _, _, _, _, _, _, _, _, _, _, _, _, _, _, _, _, _, _, _, _, _, _, _, _, _, _, _ => none
 | k + 1, x5, x13, x14, x15, x16, x47, x221000, x221001, x221002, x221003, x221004, x221005, x221006, x221007, x221008, x221009, x221010, x221011, x221012, x221013, x221014, x221015, x221016, x221017, x221018, x221019, x221020, x222000, x222001, x222002, x223000, x223001, x223002 => if x47 = true then (compositorlaw21_DemPlain.j2 k x5 x13 x14 x15 x221013 x221000 x221001 x221002 x221003 x221004 x221005 x221006 x221007 x221008 x221009 x221010 x221011 x221012 x221013 x221014 x221015 x221016 x221017 x221018 x221019 x221020 x222000 x222001 x222002 x223000 x223001 x223002) else (compositorlaw21_DemPlain.j2 k x5 x13 x14 x15 x16 x221000 x221001 x221002 x221003 x221004 x221005 x221006 x221007 x221008 x221009 x221010 x221011 x221012 x221013 x221014 x221015 x221016 x221017 x221018 x221019 x221020 x222000 x222001 x222002 x223000 x223001 x223002)
def compositorlaw21_DemPlain.j2 : Nat → Int → Bool → Int → Int → Int → Int → Int → Int → Int → List (S47) → Int → Int → Int → Int → Int → Int → Int → Int → Int → Int → Int → Int → Int → Int → Int → Int → Int → Int → Int → Int → Int → Int → Option (Bool)
 | 0, _, _, _, _, _, _, _, _, _, _, _, _, _, _, _, _, _, _, _, _, _, _, _, _, _, _, _, _, _, _, _, _ => none
 | k + 1, x5, x13, x14, x15, x16, x221000, x221001, x221002, x221003, x221004, x221005, x221006, x221007, x221008, x221009, x221010, x221011, x221012, x221013, x221014, x221015, x221016, x221017, x221018, x221019, x221020, x222000, x222001, x222002, x223000, x223001, x223002 => if x15 = 4 then (compositorlaw21_DemPlain.j3 k x5 x13 x14 x15 x221014 x221000 x221001 x221002 x221003 x221004 x221005 x221006 x221007 x221008 x221009 x221010 x221011 x221012 x221013 x221014 x221015 x221016 x221017 x221018 x221019 x221020 x222000 x222001 x222002 x223000 x223001 x223002) else (compositorlaw21_DemPlain.j3 k x5 x13 x14 x15 x16 x221000 x221001 x221002 x221003 x221004 x221005 x221006 x221007 x221008 x221009 x221010 x221011 x221012 x221013 x221014 x221015 x221016 x221017 x221018 x221019 x221020 x222000 x222001 x222002 x223000 x223001 x223002)
def compositorlaw21_DemPlain.j3 : Nat → Int → Bool → Int → Int → Int → Int → Int → Int → Int → List (S47) → Int → Int → Int → Int → Int → Int → Int → Int → Int → Int → Int → Int → Int → Int → Int → Int → Int → Int → Int → Int → Int → Int → Option (Bool)
 | 0, _, _, _, _, _, _, _, _, _, _, _, _, _, _, _, _, _, _, _, _, _, _, _, _, _, _, _, _, _, _, _, _ => none
 | k + 1, x5, x13, x14, x15, x16, x221000, x221001, x221002, x221003, x221004, x221005, x221006, x221007, x221008, x221009, x221010, x221011, x221012, x221013, x221014, x221015, x221016, x221017, x221018, x221019, x221020, x222000, x222001, x222002, x223000, x223001, x223002 => (dem_Own.f k x221000 x221001 x221002 x221003 x221004 x221005 x221006 x221007 x221008 x221009 x221010 x221011 x221012 x221013 x221014 x221015 x221016 x221017 x221018 x221019 x221020 x14 x15).bind fun t225 => (if x16 ≥ 0 then (if (wrap64 (t225 - (wrap64 ((wrap64 (x221012 + x14)) * (wrap64 (x221012 + x14)))))) = (wrap64 (x16 * x16)) then (compositorlaw21_DemPlain.j4 k x5 x13 true x221000 x221001 x221002 x221003 x221004 x221005 x221006 x221007 x221008 x221009 x221010 x221011 x221012 x221013 x221014 x221015 x221016 x221017 x221018 x221019 x221020 x222000 x222001 x222002 x223000 x223001 x223002) else (if x16 < 0 then (compositorlaw21_DemPlain.j4 k x5 x13 ((wrap64 (t225 - (wrap64 ((wrap64 (x221012 + x14)) * (wrap64 (x221012 + x14)))))) == (wrap64 ((wrap64 (-x16)) * x16))) x221000 x221001 x221002 x221003 x221004 x221005 x221006 x221007 x221008 x221009 x221010 x221011 x221012 x221013 x221014 x221015 x221016 x221017 x221018 x221019 x221020 x222000 x222001 x222002 x223000 x223001 x223002) else (compositorlaw21_DemPlain.j4 k x5 x13 false x221000 x221001 x221002 x221003 x221004 x221005 x221006 x221007 x221008 x221009 x221010 x221011 x221012 x221013 x221014 x221015 x221016 x221017 x221018 x221019 x221020 x222000 x222001 x222002 x223000 x223001 x223002))) else (if x16 < 0 then (compositorlaw21_DemPlain.j4 k x5 x13 ((wrap64 (t225 - (wrap64 ((wrap64 (x221012 + x14)) * (wrap64 (x221012 + x14)))))) == (wrap64 ((wrap64 (-x16)) * x16))) x221000 x221001 x221002 x221003 x221004 x221005 x221006 x221007 x221008 x221009 x221010 x221011 x221012 x221013 x221014 x221015 x221016 x221017 x221018 x221019 x221020 x222000 x222001 x222002 x223000 x223001 x223002) else (compositorlaw21_DemPlain.j4 k x5 x13 false x221000 x221001 x221002 x221003 x221004 x221005 x221006 x221007 x221008 x221009 x221010 x221011 x221012 x221013 x221014 x221015 x221016 x221017 x221018 x221019 x221020 x222000 x222001 x222002 x223000 x223001 x223002)))
def compositorlaw21_DemPlain.j4 : Nat → Int → Bool → Bool → Int → Int → Int → Int → List (S47) → Int → Int → Int → Int → Int → Int → Int → Int → Int → Int → Int → Int → Int → Int → Int → Int → Int → Int → Int → Int → Int → Int → Option (Bool)
 | 0, _, _, _, _, _, _, _, _, _, _, _, _, _, _, _, _, _, _, _, _, _, _, _, _, _, _, _, _, _, _ => none
 | k + 1, x5, x13, x18, x221000, x221001, x221002, x221003, x221004, x221005, x221006, x221007, x221008, x221009, x221010, x221011, x221012, x221013, x221014, x221015, x221016, x221017, x221018, x221019, x221020, x222000, x222001, x222002, x223000, x223001, x223002 => (dem_Pair.f k x221000 x221001 x221002 x221003 x221004 x221005 x221006 x221007 x221008 x221009 x221010 x221011 x221012 x221013 x221014 x221015 x221016 x221017 x221018 x221019 x221020 x222000 (Go.bits .and .i64 x222001 3) 0 x223000 (Go.bits .and .i64 x223001 3) 0 (wrap64 (x5))).bind fun t228 => (if x222000 = 2 then (compositorlaw21_DemPlain.j5 k x13 x18 t228 true x221000 x221001 x221002 x221003 x221004 x221005 x221006 x221007 x221008 x221009 x221010 x221011 x221012 x221013 x221014 x221015 x221016 x221017 x221018 x221019 x221020 x222000 (Go.bits .and .i64 x222001 3) 0 x223000 (Go.bits .and .i64 x223001 3) 0) else (compositorlaw21_DemPlain.j5 k x13 x18 t228 (x222000 == 3) x221000 x221001 x221002 x221003 x221004 x221005 x221006 x221007 x221008 x221009 x221010 x221011 x221012 x221013 x221014 x221015 x221016 x221017 x221018 x221019 x221020 x222000 (Go.bits .and .i64 x222001 3) 0 x223000 (Go.bits .and .i64 x223001 3) 0))
def compositorlaw21_DemPlain.j5 : Nat → Bool → Bool → Int → Bool → Int → Int → Int → Int → List (S47) → Int → Int → Int → Int → Int → Int → Int → Int → Int → Int → Int → Int → Int → Int → Int → Int → Int → Int → Int → Int → Int → Int → Option (Bool)
 | 0, _, _, _, _, _, _, _, _, _, _, _, _, _, _, _, _, _, _, _, _, _, _, _, _, _, _, _, _, _, _, _ => none
 | k + 1, x13, x18, x21, x22, x221000, x221001, x221002, x221003, x221004, x221005, x221006, x221007, x221008, x221009, x221010, x221011, x221012, x221013, x221014, x221015, x221016, x221017, x221018, x221019, x221020, x227000, x227001, x227002, x228000, x228001, x228002 => if (wrap64 (x227001 - x228001)) > 1 then (compositorlaw21_DemPlain.j6 k x13 x18 x21 x22 true x221000 x221001 x221002 x221003 x221004 x221005 x221006 x221007 x221008 x221009 x221010 x221011 x221012 x221013 x221014 x221015 x221016 x221017 x221018 x221019 x221020 x228000 x228001 x228002) else (compositorlaw21_DemPlain.j6 k x13 x18 x21 x22 (decide ((wrap64 (x228001 - x227001)) > 1)) x221000 x221001 x221002 x221003 x221004 x221005 x221006 x221007 x221008 x221009 x221010 x221011 x221012 x221013 x221014 x221015 x221016 x221017 x221018 x221019 x221020 x228000 x228001 x228002)
def compositorlaw21_DemPlain.j6 : Nat → Bool → Bool → Int → Bool → Bool → Int → Int → Int → Int → List (S47) → Int → Int → Int → Int → Int → Int → Int → Int → Int → Int → Int → Int → Int → Int → Int → Int → Int → Int → Int → Option (Bool)
 | 0, _, _, _, _, _, _, _, _, _, _, _, _, _, _, _, _, _, _, _, _, _, _, _, _, _, _, _, _, _ => none
 | k + 1, x13, x18, x21, x22, x128, x221000, x221001, x221002, x221003, x221004, x221005, x221006, x221007, x221008, x221009, x221010, x221011, x221012, x221013, x221014, x221015, x221016, x221017, x221018, x221019, x221020, x228000, x228001, x228002 => if x128 = true then (compositorlaw21_DemPlain.j7 k x13 x18 (wrap64 (x21 - x221015)) x22 x221000 x221001 x221002 x221003 x221004 x221005 x221006 x221007 x221008 x221009 x221010 x221011 x221012 x221013 x221014 x221015 x221016 x221017 x221018 x221019 x221020 x228000 x228001 x228002) else (compositorlaw21_DemPlain.j7 k x13 x18 x21 x22 x221000 x221001 x221002 x221003 x221004 x221005 x221006 x221007 x221008 x221009 x221010 x221011 x221012 x221013 x221014 x221015 x221016 x221017 x221018 x221019 x221020 x228000 x228001 x228002)
def compositorlaw21_DemPlain.j7 : Nat → Bool → Bool → Int → Bool → Int → Int → Int → Int → List (S47) → Int → Int → Int → Int → Int → Int → Int → Int → Int → Int → Int → Int → Int → Int → Int → Int → Int → Int → Int → Option (Bool)
 | 0, _, _, _, _, _, _, _, _, _, _, _, _, _, _, _, _, _, _, _, _, _, _, _, _, _, _, _, _ => none
 | k + 1, x13, x18, x21, x22, x221000, x221001, x221002, x221003, x221004, x221005, x221006, x221007, x221008, x221009, x221010, x221011, x221012, x221013, x221014, x221015, x221016, x221017, x221018, x221019, x221020, x228000, x228001, x228002 => if x22 = true then (if x228000 = 2 then (compositorlaw21_DemPlain.j8 k x13 x18 x21 x22 true x221000 x221001 x221002 x221003 x221004 x221005 x221006 x221007 x221008 x221009 x221010 x221011 x221012 x221013 x221014 x221015 x221016 x221017 x221018 x221019 x221020 x228000 x228001 x228002) else (compositorlaw21_DemPlain.j8 k x13 x18 x21 x22 (x228000 == 3) x221000 x221001 x221002 x221003 x221004 x221005 x221006 x221007 x221008 x221009 x221010 x221011 x221012 x221013 x221014 x221015 x221016 x221017 x221018 x221019 x221020 x228000 x228001 x228002)) else (compositorlaw21_DemPlain.j8 k x13 x18 x21 x22 false x221000 x221001 x221002 x221003 x221004 x221005 x221006 x221007 x221008 x221009 x221010 x221011 x221012 x221013 x221014 x221015 x221016 x221017 x221018 x221019 x221020 x228000 x228001 x228002)
def compositorlaw21_DemPlain.j8 : Nat → Bool → Bool → Int → Bool → Bool → Int → Int → Int → Int → List (S47) → Int → Int → Int → Int → Int → Int → Int → Int → Int → Int → Int → Int → Int → Int → Int → Int → Int → Int → Int → Option (Bool)
 | 0, _, _, _, _, _, _, _, _, _, _, _, _, _, _, _, _, _, _, _, _, _, _, _, _, _, _, _, _, _ => none
 | k + 1, x13, x18, x21, x22, x143, x221000, x221001, x221002, x221003, x221004, x221005, x221006, x221007, x221008, x221009, x221010, x221011, x221012, x221013, x221014, x221015, x221016, x221017, x221018, x221019, x221020, x228000, x228001, x228002 => if x143 = true then (if x22 = true then (if x228000 = 5 then (if x13 = true then (if x18 = true then (some ((wrap64 ((wrap64 (x21 - x221016)) - x221017)) == 0)) else (none)) else (none)) else (if x13 = true then (if x18 = true then (some ((wrap64 (x21 - x221016)) == 0)) else (none)) else (none))) else (if x13 = true then (if x18 = true then (some ((wrap64 (x21 - x221016)) == 0)) else (none)) else (none))) else (if x22 = true then (if x228000 = 5 then (if x13 = true then (if x18 = true then (some ((wrap64 (x21 - x221017)) == 0)) else (none)) else (none)) else (if x13 = true then (if x18 = true then (some (x21 == 0)) else (none)) else (none))) else (if x13 = true then (if x18 = true then (some (x21 == 0)) else (none)) else (none)))
end
def compositorlaw21_DemPlain.f (k : Nat) (a0_0 : Int) (a0_1 : Int) (a0_2 : Int) (a0_3 : Int) (l0_4 : List (S47)) (a0_5 : Int) (a0_6 : Int) (a0_7 : Int) (a0_8 : Int) (a0_9 : Int) (a0_10 : Int) (a0_11 : Int) (a0_12 : Int) (a0_13 : Int) (a0_14 : Int) (a0_15 : Int) (a0_16 : Int) (a0_17 : Int) (a0_18 : Int) (a0_19 : Int) (a0_20 : Int) (a1 : Int) (a2 : Int) (a3_0 : Int) (a3_1 : Int) (a3_2 : Int) (a4_0 : Int) (a4_1 : Int) (a4_2 : Int) (a5 : Int) : Option (Bool) := (compositorlaw21_awake.f k).bind fun t223 => (if (l0_4.length : Int) > 100 then (compositorlaw21_DemPlain.j0 k a1 a2 a5 t223 true a0_0 a0_1 a0_2 a0_3 l0_4 a0_5 a0_6 a0_7 a0_8 a0_9 a0_10 a0_11 a0_12 a0_13 a0_14 a0_15 a0_16 a0_17 0 0 a0_20 a3_0 a3_1 a3_2 a4_0 a4_1 a4_2) else ((compositorref14_Check.f k a0_0 a0_1 a0_2 a0_3 l0_4 a0_5 a0_6 a0_7 a0_8 a0_9 a0_10 a0_11 a0_12 a0_13 a0_14 a0_15 a0_16 a0_17 0 0 a0_20).bind fun t224 => (compositorlaw21_DemPlain.j0 k a1 a2 a5 t223 (!t224) a0_0 a0_1 a0_2 a0_3 l0_4 a0_5 a0_6 a0_7 a0_8 a0_9 a0_10 a0_11 a0_12 a0_13 a0_14 a0_15 a0_16 a0_17 0 0 a0_20 a3_0 a3_1 a3_2 a4_0 a4_1 a4_2)))
theorem compositorlaw21_DemPlain.mono_l : ∀ k, (∀ y0 y1 y2 y3 y4 y5 y6 y7 y8 y9 y10 y11 y12 y13 y14 y15 y16 y17 y18 y19 y20 y21 y22 y23 y24 y25 y26 y27 y28 y29 y30 y31, LeO (compositorlaw21_DemPlain.j0 k y0 y1 y2 y3 y4 y5 y6 y7 y8 y9 y10 y11 y12 y13 y14 y15 y16 y17 y18 y19 y20 y21 y22 y23 y24 y25 y26 y27 y28 y29 y30 y31) (compositorlaw21_DemPlain.j0 (k + 1) y0 y1 y2 y3 y4 y5 y6 y7 y8 y9 y10 y11 y12 y13 y14 y15 y16 y17 y18 y19 y20 y21 y22 y23 y24 y25 y26 y27 y28 y29 y30 y31)) ∧ (∀ y0 y1 y2 y3 y4 y5 y6 y7 y8 y9 y10 y11 y12 y13 y14 y15 y16 y17 y18 y19 y20 y21 y22 y23 y24 y25 y26 y27 y28 y29 y30 y31 y32, LeO (compositorlaw21_DemPlain.j1 k y0 y1 y2 y3 y4 y5 y6 y7 y8 y9 y10 y11 y12 y13 y14 y15 y16 y17 y18 y19 y20 y21 y22 y23 y24 y25 y26 y27 y28 y29 y30 y31 y32) (compositorlaw21_DemPlain.j1 (k + 1) y0 y1 y2 y3 y4 y5 y6 y7 y8 y9 y10 y11 y12 y13 y14 y15 y16 y17 y18 y19 y20 y21 y22 y23 y24 y25 y26 y27 y28 y29 y30 y31 y32)) ∧ (∀ y0 y1 y2 y3 y4 y5 y6 y7 y8 y9 y10 y11 y12 y13 y14 y15 y16 y17 y18 y19 y20 y21 y22 y23 y24 y25 y26 y27 y28 y29 y30 y31, LeO (compositorlaw21_DemPlain.j2 k y0 y1 y2 y3 y4 y5 y6 y7 y8 y9 y10 y11 y12 y13 y14 y15 y16 y17 y18 y19 y20 y21 y22 y23 y24 y25 y26 y27 y28 y29 y30 y31) (compositorlaw21_DemPlain.j2 (k + 1) y0 y1 y2 y3 y4 y5 y6 y7 y8 y9 y10 y11 y12 y13 y14 y15 y16 y17 y18 y19 y20 y21 y22 y23 y24 y25 y26 y27 y28 y29 y30 y31)) ∧ (∀ y0 y1 y2 y3 y4 y5 y6 y7 y8 y9 y10 y11 y12 y13 y14 y15 y16 y17 y18 y19 y20 y21 y22 y23 y24 y25 y26 y27 y28 y29 y30 y31, LeO (compositorlaw21_DemPlain.j3 k y0 y1 y2 y3 y4 y5 y6 y7 y8 y9 y10 y11 y12 y13 y14 y15 y16 y17 y18 y19 y20 y21 y22 y23 y24 y25 y26 y27 y28 y29 y30 y31) (compositorlaw21_DemPlain.j3 (k + 1) y0 y1 y2 y3 y4 y5 y6 y7 y8 y9 y10 y11 y12 y13 y14 y15 y16 y17 y18 y19 y20 y21 y22 y23 y24 y25 y26 y27 y28 y29 y30 y31)) ∧ (∀ y0 y1 y2 y3 y4 y5 y6 y7 y8 y9 y10 y11 y12 y13 y14 y15 y16 y17 y18 y19 y20 y21 y22 y23 y24 y25 y26 y27 y28 y29, LeO (compositorlaw21_DemPlain.j4 k y0 y1 y2 y3 y4 y5 y6 y7 y8 y9 y10 y11 y12 y13 y14 y15 y16 y17 y18 y19 y20 y21 y22 y23 y24 y25 y26 y27 y28 y29) (compositorlaw21_DemPlain.j4 (k + 1) y0 y1 y2 y3 y4 y5 y6 y7 y8 y9 y10 y11 y12 y13 y14 y15 y16 y17 y18 y19 y20 y21 y22 y23 y24 y25 y26 y27 y28 y29)) ∧ (∀ y0 y1 y2 y3 y4 y5 y6 y7 y8 y9 y10 y11 y12 y13 y14 y15 y16 y17 y18 y19 y20 y21 y22 y23 y24 y25 y26 y27 y28 y29 y30, LeO (compositorlaw21_DemPlain.j5 k y0 y1 y2 y3 y4 y5 y6 y7 y8 y9 y10 y11 y12 y13 y14 y15 y16 y17 y18 y19 y20 y21 y22 y23 y24 y25 y26 y27 y28 y29 y30) (compositorlaw21_DemPlain.j5 (k + 1) y0 y1 y2 y3 y4 y5 y6 y7 y8 y9 y10 y11 y12 y13 y14 y15 y16 y17 y18 y19 y20 y21 y22 y23 y24 y25 y26 y27 y28 y29 y30)) ∧ (∀ y0 y1 y2 y3 y4 y5 y6 y7 y8 y9 y10 y11 y12 y13 y14 y15 y16 y17 y18 y19 y20 y21 y22 y23 y24 y25 y26 y27 y28, LeO (compositorlaw21_DemPlain.j6 k y0 y1 y2 y3 y4 y5 y6 y7 y8 y9 y10 y11 y12 y13 y14 y15 y16 y17 y18 y19 y20 y21 y22 y23 y24 y25 y26 y27 y28) (compositorlaw21_DemPlain.j6 (k + 1) y0 y1 y2 y3 y4 y5 y6 y7 y8 y9 y10 y11 y12 y13 y14 y15 y16 y17 y18 y19 y20 y21 y22 y23 y24 y25 y26 y27 y28)) ∧ (∀ y0 y1 y2 y3 y4 y5 y6 y7 y8 y9 y10 y11 y12 y13 y14 y15 y16 y17 y18 y19 y20 y21 y22 y23 y24 y25 y26 y27, LeO (compositorlaw21_DemPlain.j7 k y0 y1 y2 y3 y4 y5 y6 y7 y8 y9 y10 y11 y12 y13 y14 y15 y16 y17 y18 y19 y20 y21 y22 y23 y24 y25 y26 y27) (compositorlaw21_DemPlain.j7 (k + 1) y0 y1 y2 y3 y4 y5 y6 y7 y8 y9 y10 y11 y12 y13 y14 y15 y16 y17 y18 y19 y20 y21 y22 y23 y24 y25 y26 y27)) ∧ (∀ y0 y1 y2 y3 y4 y5 y6 y7 y8 y9 y10 y11 y12 y13 y14 y15 y16 y17 y18 y19 y20 y21 y22 y23 y24 y25 y26 y27 y28, LeO (compositorlaw21_DemPlain.j8 k y0 y1 y2 y3 y4 y5 y6 y7 y8 y9 y10 y11 y12 y13 y14 y15 y16 y17 y18 y19 y20 y21 y22 y23 y24 y25 y26 y27 y28) (compositorlaw21_DemPlain.j8 (k + 1) y0 y1 y2 y3 y4 y5 y6 y7 y8 y9 y10 y11 y12 y13 y14 y15 y16 y17 y18 y19 y20 y21 y22 y23 y24 y25 y26 y27 y28))
 | 0 => ⟨fun _ _ _ _ _ _ _ _ _ _ _ _ _ _ _ _ _ _ _ _ _ _ _ _ _ _ _ _ _ _ _ _ r h => by simp [compositorlaw21_DemPlain.j0] at h, fun _ _ _ _ _ _ _ _ _ _ _ _ _ _ _ _ _ _ _ _ _ _ _ _ _ _ _ _ _ _ _ _ _ r h => by simp [compositorlaw21_DemPlain.j1] at h, fun _ _ _ _ _ _ _ _ _ _ _ _ _ _ _ _ _ _ _ _ _ _ _ _ _ _ _ _ _ _ _ _ r h => by simp [compositorlaw21_DemPlain.j2] at h, fun _ _ _ _ _ _ _ _ _ _ _ _ _ _ _ _ _ _ _ _ _ _ _ _ _ _ _ _ _ _ _ _ r h => by simp [compositorlaw21_DemPlain.j3] at h, fun _ _ _ _ _ _ _ _ _ _ _ _ _ _ _ _ _ _ _ _ _ _ _ _ _ _ _ _ _ _ r h => by simp [compositorlaw21_DemPlain.j4] at h, fun _ _ _ _ _ _ _ _ _ _ _ _ _ _ _ _ _ _ _ _ _ _ _ _ _ _ _ _ _ _ _ r h => by simp [compositorlaw21_DemPlain.j5] at h, fun _ _ _ _ _ _ _ _ _ _ _ _ _ _ _ _ _ _ _ _ _ _ _ _ _ _ _ _ _ r h => by simp [compositorlaw21_DemPlain.j6] at h, fun _ _ _ _ _ _ _ _ _ _ _ _ _ _ _ _ _ _ _ _ _ _ _ _ _ _ _ _ r h => by simp [compositorlaw21_DemPlain.j7] at h, fun _ _ _ _ _ _ _ _ _ _ _ _ _ _ _ _ _ _ _ _ _ _ _ _ _ _ _ _ _ r h => by simp [compositorlaw21_DemPlain.j8] at h⟩
 | k + 1 => by
  obtain ⟨ih0, ih1, ih2, ih3, ih4, ih5, ih6, ih7, ih8⟩ := compositorlaw21_DemPlain.mono_l k
  refine ⟨?_, ?_, ?_, ?_, ?_, ?_, ?_, ?_, ?_⟩
  ·intro y0 y1 y2 y3 y4 y5 y6 y7 y8 y9 y10 y11 y12 y13 y14 y15 y16 y17 y18 y19 y20 y21 y22 y23 y24 y25 y26 y27 y28 y29 y30 y31
   unfold compositorlaw21_DemPlain.j0
   repeat' first
   | (with_reducible exact ih0 _ _ _ _ _ _ _ _ _ _ _ _ _ _ _ _ _ _ _ _ _ _ _ _ _ _ _ _ _ _ _ _)
   | (with_reducible exact ih1 _ _ _ _ _ _ _ _ _ _ _ _ _ _ _ _ _ _ _ _ _ _ _ _ _ _ _ _ _ _ _ _ _)
   | (with_reducible exact ih2 _ _ _ _ _ _ _ _ _ _ _ _ _ _ _ _ _ _ _ _ _ _ _ _ _ _ _ _ _ _ _ _)
   | (with_reducible exact ih3 _ _ _ _ _ _ _ _ _ _ _ _ _ _ _ _ _ _ _ _ _ _ _ _ _ _ _ _ _ _ _ _)
   | (with_reducible exact ih4 _ _ _ _ _ _ _ _ _ _ _ _ _ _ _ _ _ _ _ _ _ _ _ _ _ _ _ _ _ _)
   | (with_reducible exact ih5 _ _ _ _ _ _ _ _ _ _ _ _ _ _ _ _ _ _ _ _ _ _ _ _ _ _ _ _ _ _ _)
   | (with_reducible exact ih6 _ _ _ _ _ _ _ _ _ _ _ _ _ _ _ _ _ _ _ _ _ _ _ _ _ _ _ _ _)
   | (with_reducible exact ih7 _ _ _ _ _ _ _ _ _ _ _ _ _ _ _ _ _ _ _ _ _ _ _ _ _ _ _ _)
   | (with_reducible exact ih8 _ _ _ _ _ _ _ _ _ _ _ _ _ _ _ _ _ _ _ _ _ _ _ _ _ _ _ _ _)
   | (with_reducible exact compositorlaw21_awake.mono _)
   | (with_reducible exact compositorref14_Check.mono _ _ _ _ _ _ _ _ _ _ _ _ _ _ _ _ _ _ _ _ _ _)
   | (with_reducible exact dem_Own.mono _ _ _ _ _ _ _ _ _ _ _ _ _ _ _ _ _ _ _ _ _ _ _ _)
   | (with_reducible exact dem_Pair.mono _ _ _ _ _ _ _ _ _ _ _ _ _ _ _ _ _ _ _ _ _ _ _ _ _ _ _ _ _)
   | (with_reducible exact LeO.refl _)
   | (with_reducible exact LeO.none _)
   | (with_reducible refine LeO.ite ?_ ?_)
   | (with_reducible refine LeO.bind ?_ (fun _ => ?_))
   | exact ih0 _ _ _ _ _ _ _ _ _ _ _ _ _ _ _ _ _ _ _ _ _ _ _ _ _ _ _ _ _ _ _ _
   | exact ih1 _ _ _ _ _ _ _ _ _ _ _ _ _ _ _ _ _ _ _ _ _ _ _ _ _ _ _ _ _ _ _ _ _
   | exact ih2 _ _ _ _ _ _ _ _ _ _ _ _ _ _ _ _ _ _ _ _ _ _ _ _ _ _ _ _ _ _ _ _
   | exact ih3 _ _ _ _ _ _ _ _ _ _ _ _ _ _ _ _ _ _ _ _ _ _ _ _ _ _ _ _ _ _ _ _
   | exact ih4 _ _ _ _ _ _ _ _ _ _ _ _ _ _ _ _ _ _ _ _ _ _ _ _ _ _ _ _ _ _
   | exact ih5 _ _ _ _ _ _ _ _ _ _ _ _ _ _ _ _ _ _ _ _ _ _ _ _ _ _ _ _ _ _ _
   | exact ih6 _ _ _ _ _ _ _ _ _ _ _ _ _ _ _ _ _ _ _ _ _ _ _ _ _ _ _ _ _
   | exact ih7 _ _ _ _ _ _ _ _ _ _ _ _ _ _ _ _ _ _ _ _ _ _ _ _ _ _ _ _
   | exact ih8 _ _ _ _ _ _ _ _ _ _ _ _ _ _ _ _ _ _ _ _ _ _ _ _ _ _ _ _ _
   | exact compositorlaw21_awake.mono _
   | exact compositorref14_Check.mono _ _ _ _ _ _ _ _ _ _ _ _ _ _ _ _ _ _ _ _ _ _
   | exact dem_Own.mono _ _ _ _ _ _ _ _ _ _ _ _ _ _ _ _ _ _ _ _ _ _ _ _
   | exact dem_Pair.mono _ _ _ _ _ _ _ _ _ _ _ _ _ _ _ _ _ _ _ _ _ _ _ _ _ _ _ _ _
   | exact LeO.none _
   | refine LeO.ite ?_ ?_
   | refine LeO.bind ?_ (fun _ => ?_)
  ·intro y0 y1 y2 y3 y4 y5 y6 y7 y8 y9 y10 y11 y12 y13 y14 y15 y16 y17 y18 y19 y20 y21 y22 y23 y24 y25 y26 y27 y28 y29 y30 y31 y32
   unfold compositorlaw21_DemPlain.j1
   repeat' first
   | (with_reducible exact ih0 _ _ _ _ _ _ _ _ _ _ _ _ _ _ _ _ _ _ _ _ _ _ _ _ _ _ _ _ _ _ _ _)
   | (with_reducible exact ih1 _ _ _ _ _ _ _ _ _ _ _ _ _ _ _ _ _ _ _ _ _ _ _ _ _ _ _ _ _ _ _ _ _)
   | (with_reducible exact ih2 _ _ _ _ _ _ _ _ _ _ _ _ _ _ _ _ _ _ _ _ _ _ _ _ _ _ _ _ _ _ _ _)
   | (with_reducible exact ih3 _ _ _ _ _ _ _ _ _ _ _ _ _ _ _ _ _ _ _ _ _ _ _ _ _ _ _ _ _ _ _ _)
   | (with_reducible exact ih4 _ _ _ _ _ _ _ _ _ _ _ _ _ _ _ _ _ _ _ _ _ _ _ _ _ _ _ _ _ _)
   | (with_reducible exact ih5 _ _ _ _ _ _ _ _ _ _ _ _ _ _ _ _ _ _ _ _ _ _ _ _ _ _ _ _ _ _ _)
   | (with_reducible exact ih6 _ _ _ _ _ _ _ _ _ _ _ _ _ _ _ _ _ _ _ _ _ _ _ _ _ _ _ _ _)
   | (with_reducible exact ih7 _ _ _ _ _ _ _ _ _ _ _ _ _ _ _ _ _ _ _ _ _ _ _ _ _ _ _ _)
   | (with_reducible exact ih8 _ _ _ _ _ _ _ _ _ _ _ _ _ _ _ _ _ _ _ _ _ _ _ _ _ _ _ _ _)
   | (with_reducible exact compositorlaw21_awake.mono _)
   | (with_reducible exact compositorref14_Check.mono _ _ _ _ _ _ _ _ _ _ _ _ _ _ _ _ _ _ _ _ _ _)
   | (with_reducible exact dem_Own.mono _ _ _ _ _ _ _ _ _ _ _ _ _ _ _ _ _ _ _ _ _ _ _ _)
   | (with_reducible exact dem_Pair.mono _ _ _ _ _ _ _ _ _ _ _ _ _ _ _ _ _ _ _ _ _ _ _ _ _ _ _ _ _)
   | (with_reducible exact LeO.refl _)
   | (with_reducible exact LeO.none _)
   | (with_reducible refine LeO.ite ?_ ?_)
   | (with_reducible refine LeO.bind ?_ (fun _ => ?_))
   | exact ih0 _ _ _ _ _ _ _ _ _ _ _ _ _ _ _ _ _ _ _ _ _ _ _ _ _ _ _ _ _ _ _ _
   | exact ih1 _ _ _ _ _ _ _ _ _ _ _ _ _ _ _ _ _ _ _ _ _ _ _ _ _ _ _ _ _ _ _ _ _
   | exact ih2 _ _ _ _ _ _ _ _ _ _ _ _ _ _ _ _ _ _ _ _ _ _ _ _ _ _ _ _ _ _ _ _
   | exact ih3 _ _ _ _ _ _ _ _ _ _ _ _ _ _ _ _ _ _ _ _ _ _ _ _ _ _ _ _ _ _ _ _
   | exact ih4 _ _ _ _ _ _ _ _ _ _ _ _ _ _ _ _ _ _ _ _ _ _ _ _ _ _ _ _ _ _
   | exact ih5 _ _ _ _ _ _ _ _ _ _ _ _ _ _ _ _ _ _ _ _ _ _ _ _ _ _ _ _ _ _ _
   | exact ih6 _ _ _ _ _ _ _ _ _ _ _ _ _ _ _ _ _ _ _ _ _ _ _ _ _ _ _ _ _
   | exact ih7 _ _ _ _ _ _ _ _ _ _ _ _ _ _ _ _ _ _ _ _ _ _ _ _ _ _ _ _
   | exact ih8 _ _ _ _ _ _ _ _ _ _ _ _ _ _ _ _ _ _ _ _ _ _ _ _ _ _ _ _ _
   | exact compositorlaw21_awake.mono _
   | exact compositorref14_Check.mono _ _ _ _ _ _ _ _ _ _ _ _ _ _ _ _ _ _ _ _ _ _
   | exact dem_Own.mono _ _ _ _ _ _ _ _ _ _ _ _ _ _ _ _ _ _ _ _ _ _ _ _
   | exact dem_Pair.mono _ _ _ _ _ _ _ _ _ _ _ _ _ _ _ _ _ _ _ _ _ _ _ _ _ _ _ _ _
   | exact LeO.none _
   | refine LeO.ite ?_ ?_
   | refine LeO.bind ?_ (fun _ => ?_)
  ·intro y0 y1 y2 y3 y4 y5 y6 y7 y8 y9 y10 y11 y12 y13 y14 y15 y16 y17 y18 y19 y20 y21 y22 y23 y24 y25 y26 y27 y28 y29 y30 y31
   unfold compositorlaw21_DemPlain.j2
   repeat' first
   | (with_reducible exact ih0 _ _ _ _ _ _ _ _ _ _ _ _ _ _ _ _ _ _ _ _ _ _ _ _ _ _ _ _ _ _ _ _)
   | (with_reducible exact ih1 _ _ _ _ _ _ _ _ _ _ _ _ _ _ _ _ _ _ _ _ _ _ _ _ _ _ _ _ _ _ _ _ _)
   | (with_reducible exact ih2 _ _ _ _ _ _ _ _ _ _ _ _ _ _ _ _ _ _ _ _ _ _ _ _ _ _ _ _ _ _ _ _)
   | (with_reducible exact ih3 _ _ _ _ _ _ _ _ _ _ _ _ _ _ _ _ _ _ _ _ _ _ _ _ _ _ _ _ _ _ _ _)
   | (with_reducible exact ih4 _ _ _ _ _ _ _ _ _ _ _ _ _ _ _ _ _ _ _ _ _ _ _ _ _ _ _ _ _ _)
   | (with_reducible exact ih5 _ _ _ _ _ _ _ _ _ _ _ _ _ _ _ _ _ _ _ _ _ _ _ _ _ _ _ _ _ _ _)
   | (with_reducible exact ih6 _ _ _ _ _ _ _ _ _ _ _ _ _ _ _ _ _ _ _ _ _ _ _ _ _ _ _ _ _)
   | (with_reducible exact ih7 _ _ _ _ _ _ _ _ _ _ _ _ _ _ _ _ _ _ _ _ _ _ _ _ _ _ _ _)
   | (with_reducible exact ih8 _ _ _ _ _ _ _ _ _ _ _ _ _ _ _ _ _ _ _ _ _ _ _ _ _ _ _ _ _)
   | (with_reducible exact compositorlaw21_awake.mono _)
   | (with_reducible exact compositorref14_Check.mono _ _ _ _ _ _ _ _ _ _ _ _ _ _ _ _ _ _ _ _ _ _)
   | (with_reducible exact dem_Own.mono _ _ _ _ _ _ _ _ _ _ _ _ _ _ _ _ _ _ _ _ _ _ _ _)
   | (with_reducible exact dem_Pair.mono _ _ _ _ _ _ _ _ _ _ _ _ _ _ _ _ _ _ _ _ _ _ _ _ _ _ _ _ _)
   | (with_reducible exact LeO.refl _)
   | (with_reducible exact LeO.none _)
   | (with_reducible refine LeO.ite ?_ ?_)
   | (with_reducible refine LeO.bind ?_ (fun _ => ?_))
   | exact ih0 _ _ _ _ _ _ _ _ _ _ _ _ _ _ _ _ _ _ _ _ _ _ _ _ _ _ _ _ _ _ _ _
   | exact ih1 _ _ _ _ _ _ _ _ _ _ _ _ _ _ _ _ _ _ _ _ _ _ _ _ _ _ _ _ _ _ _ _ _
   | exact ih2 _ _ _ _ _ _ _ _ _ _ _ _ _ _ _ _ _ _ _ _ _ _ _ _ _ _ _ _ _ _ _ _
   | exact ih3 _ _ _ _ _ _ _ _ _ _ _ _ _ _ _ _ _ _ _ _ _ _ _ _ _ _ _ _ _ _ _ _
   | exact ih4 _ _ _ _ _ _ _ _ _ _ _ _ _ _ _ _ _ _ _ _ _ _ _ _ _ _ _ _ _ _
   | exact ih5 _ _ _ _ _ _ _ _ _ _ _ _ _ _ _ _ _ _ _ _ _ _ _ _ _ _ _ _ _ _ _
   | exact ih6 _ _ _ _ _ _ _ _ _ _ _ _ _ _ _ _ _ _ _ _ _ _ _ _ _ _ _ _ _
   | exact ih7 _ _ _ _ _ _ _ _ _ _ _ _ _ _ _ _ _ _ _ _ _ _ _ _ _ _ _ _
   | exact ih8 _ _ _ _ _ _ _ _ _ _ _ _ _ _ _ _ _ _ _ _ _ _ _ _ _ _ _ _ _
   | exact compositorlaw21_awake.mono _
   | exact compositorref14_Check.mono _ _ _ _ _ _ _ _ _ _ _ _ _ _ _ _ _ _ _ _ _ _
   | exact dem_Own.mono _ _ _ _ _ _ _ _ _ _ _ _ _ _ _ _ _ _ _ _ _ _ _ _
   | exact dem_Pair.mono _ _ _ _ _ _ _ _ _ _ _ _ _ _ _ _ _ _ _ _ _ _ _ _ _ _ _ _ _
   | exact LeO.none _
   | refine LeO.ite ?_ ?_
   | refine LeO.bind ?_ (fun _ => ?_)
  ·intro y0 y1 y2 y3 y4 y5 y6 y7 y8 y9 y10 y11 y12 y13 y14 y15 y16 y17 y18 y19 y20 y21 y22 y23 y24 y25 y26 y27 y28 y29 y30 y31
   unfold compositorlaw21_DemPlain.j3
   repeat' first
   | (with_reducible exact ih0 _ _ _ _ _ _ _ _ _ _ _ _ _ _ _ _ _ _ _ _ _ _ _ _ _ _ _ _ _ _ _ _)
   | (with_reducible exact ih1 _ _ _ _ _ _ _ _ _ _ _ _ _ _ _ _ _ _ _ _ _ _ _ _ _ _ _ _ _ _ _ _ _)
   | (with_reducible exact ih2 _ _ _ _ _ _ _ _ _ _ _ _ _ _ _ _ _ _ _ _ _ _ _ _ _ _ _ _ _ _ _ _)
   | (with_reducible exact ih3 _ _ _ _ _ _ _ _ _ _ _ _ _ _ _ _ _ _ _ _ _ _ _ _ _ _ _ _ _ _ _ _)
   | (with_reducible exact ih4 _ _ _ _ _ _ _ _ _ _ _ _ _ _ _ _ _ _ _ _ _ _ _ _ _ _ _ _ _ _)
   | (with_reducible exact ih5 _ _ _ _ _ _ _ _ _ _ _ _ _ _ _ _ _ _ _ _ _ _ _ _ _ _ _ _ _ _ _)
   | (with_reducible exact ih6 _ _ _ _ _ _ _ _ _ _ _ _ _ _ _ _ _ _ _ _ _ _ _ _ _ _ _ _ _)
   | (with_reducible exact ih7 _ _ _ _ _ _ _ _ _ _ _ _ _ _ _ _ _ _ _ _ _ _ _ _ _ _ _ _)
   | (with_reducible exact ih8 _ _ _ _ _ _ _ _ _ _ _ _ _ _ _ _ _ _ _ _ _ _ _ _ _ _ _ _ _)
   | (with_reducible exact compositorlaw21_awake.mono _)
   | (with_reducible exact compositorref14_Check.mono _ _ _ _ _ _ _ _ _ _ _ _ _ _ _ _ _ _ _ _ _ _)
   | (with_reducible exact dem_Own.mono _ _ _ _ _ _ _ _ _ _ _ _ _ _ _ _ _ _ _ _ _ _ _ _)
   | (with_reducible exact dem_Pair.mono _ _ _ _ _ _ _ _ _ _ _ _ _ _ _ _ _ _ _ _ _ _ _ _ _ _ _ _ _)
   | (with_reducible exact LeO.refl _)
   | (with_reducible exact LeO.none _)
   | (with_reducible refine LeO.ite ?_ ?_)
   | (with_reducible refine LeO.bind ?_ (fun _ => ?_))
   | exact ih0 _ _ _ _ _ _ _ _ _ _ _ _ _ _ _ _ _ _ _ _ _ _ _ _ _ _ _ _ _ _ _ _
   | exact ih1 _ _ _ _ _ _ _ _ _ _ _ _ _ _ _ _ _ _ _ _ _ _ _ _ _ _ _ _ _ _ _ _ _
   | exact ih2 _ _ _ _ _ _ _ _ _ _ _ _ _ _ _ _ _ _ _ _ _ _ _ _ _ _ _ _ _ _ _ _
   | exact ih3 _ _ _ _ _ _ _ _ _ _ _ _ _ _ _ _ _ _ _ _ _ _ _ _ _ _ _ _ _ _ _ _
   | exact ih4 _ _ _ _ _ _ _ _ _ _ _ _ _ _ _ _ _ _ _ _ _ _ _ _ _ _ _ _ _ _
   | exact ih5 _ _ _ _ _ _ _ _ _ _ _ _ _ _ _ _ _ _ _ _ _ _ _ _ _ _ _ _ _ _ _
   | exact ih6 _ _ _ _ _ _ _ _ _ _ _ _ _ _ _ _ _ _ _ _ _ _ _ _ _ _ _ _ _
   | exact ih7 _ _ _ _ _ _ _ _ _ _ _ _ _ _ _ _ _ _ _ _ _ _ _ _ _ _ _ _
   | exact ih8 _ _ _ _ _ _ _ _ _ _ _ _ _ _ _ _ _ _ _ _ _ _ _ _ _ _ _ _ _
   | exact compositorlaw21_awake.mono _
   | exact compositorref14_Check.mono _ _ _ _ _ _ _ _ _ _ _ _ _ _ _ _ _ _ _ _ _ _
   | exact dem_Own.mono _ _ _ _ _ _ _ _ _ _ _ _ _ _ _ _ _ _ _ _ _ _ _ _
   | exact dem_Pair.mono _ _ _ _ _ _ _ _ _ _ _ _ _ _ _ _ _ _ _ _ _ _ _ _ _ _ _ _ _
   | exact LeO.none _
   | refine LeO.ite ?_ ?_
   | refine LeO.bind ?_ (fun _ => ?_)
  ·intro y0 y1 y2 y3 y4 y5 y6 y7 y8 y9 y10 y11 y12 y13 y14 y15 y16 y17 y18 y19 y20 y21 y22 y23 y24 y25 y26 y27 y28 y29
   unfold compositorlaw21_DemPlain.j4
   repeat' first
   | (with_reducible exact ih0 _ _ _ _ _ _ _ _ _ _ _ _ _ _ _ _ _ _ _ _ _ _ _ _ _ _ _ _ _ _ _ _)
   | (with_reducible exact ih1 _ _ _ _ _ _ _ _ _ _ _ _ _ _ _ _ _ _ _ _ _ _ _ _ _ _ _ _ _ _ _ _ _)
   | (with_reducible exact ih2 _ _ _ _ _ _ _ _ _ _ _ _ _ _ _ _ _ _ _ _ _ _ _ _ _ _ _ _ _ _ _ _)
   | (with_reducible exact ih3 _ _ _ _ _ _ _ _ _ _ _ _ _ _ _ _ _ _ _ _ _ _ _ _ _ _ _ _ _ _ _ _)
   | (with_reducible exact ih4 _ _ _ _ _ _ _ _ _ _ _ _ _ _ _ _ _ _ _ _ _ _ _ _ _ _ _ _ _ _)
   | (with_reducible exact ih5 _ _ _ _ _ _ _ _ _ _ _ _ _ _ _ _ _ _ _ _ _ _ _ _ _ _ _ _ _ _ _)
   | (with_reducible exact ih6 _ _ _ _ _ _ _ _ _ _ _ _ _ _ _ _ _ _ _ _ _ _ _ _ _ _ _ _ _)
   | (with_reducible exact ih7 _ _ _ _ _ _ _ _ _ _ _ _ _ _ _ _ _ _ _ _ _ _ _ _ _ _ _ _)
   | (with_reducible exact ih8 _ _ _ _ _ _ _ _ _ _ _ _ _ _ _ _ _ _ _ _ _ _ _ _ _ _ _ _ _)
   | (with_reducible exact compositorlaw21_awake.mono _)
   | (with_reducible exact compositorref14_Check.mono _ _ _ _ _ _ _ _ _ _ _ _ _ _ _ _ _ _ _ _ _ _)
   | (with_reducible exact dem_Own.mono _ _ _ _ _ _ _ _ _ _ _ _ _ _ _ _ _ _ _ _ _ _ _ _)
   | (with_reducible exact dem_Pair.mono _ _ _ _ _ _ _ _ _ _ _ _ _ _ _ _ _ _ _ _ _ _ _ _ _ _ _ _ _)
   | (with_reducible exact LeO.refl _)
   | (with_reducible exact LeO.none _)
   | (with_reducible refine LeO.ite ?_ ?_)
   | (with_reducible refine LeO.bind ?_ (fun _ => ?_))
   | exact ih0 _ _ _ _ _ _ _ _ _ _ _ _ _ _ _ _ _ _ _ _ _ _ _ _ _ _ _ _ _ _ _ _
   | exact ih1 _ _ _ _ _ _ _ _ _ _ _ _ _ _ _ _ _ _ _ _ _ _ _ _ _ _ _ _ _ _ _ _ _
   | exact ih2 _ _ _ _ _ _ _ _ _ _ _ _ _ _ _ _ _ _ _ _ _ _ _ _ _ _ _ _ _ _ _ _
   | exact ih3 _ _ _ _ _ _ _ _ _ _ _ _ _ _ _ _ _ _ _ _ _ _ _ _ _ _ _ _ _ _ _ _
   | exact ih4 _ _ _ _ _ _ _ _ _ _ _ _ _ _ _ _ _ _ _ _ _ _ _ _ _ _ _ _ _ _
   | exact ih5 _ _ _ _ _ _ _ _ _ _ _ _ _ _ _ _ _ _ _ _ _ _ _ _ _ _ _ _ _ _ _
   | exact ih6 _ _ _ _ _ _ _ _ _ _ _ _ _ _ _ _ _ _ _ _ _ _ _ _ _ _ _ _ _
   | exact ih7 _ _ _ _ _ _ _ _ _ _ _ _ _ _ _ _ _ _ _ _ _ _ _ _ _ _ _ _
   | exact ih8 _ _ _ _ _ _ _ _ _ _ _ _ _ _ _ _ _ _ _ _ _ _ _ _ _ _ _ _ _
   | exact compositorlaw21_awake.mono _
   | exact compositorref14_Check.mono _ _ _ _ _ _ _ _ _ _ _ _ _ _ _ _ _ _ _ _ _ _
   | exact dem_Own.mono _ _ _ _ _ _ _ _ _ _ _ _ _ _ _ _ _ _ _ _ _ _ _ _
   | exact dem_Pair.mono _ _ _ _ _ _ _ _ _ _ _ _ _ _ _ _ _ _ _ _ _ _ _ _ _ _ _ _ _
   | exact LeO.none _
   | refine LeO.ite ?_ ?_
   | refine LeO.bind ?_ (fun _ => ?_)
  ·intro y0 y1 y2 y3 y4 y5 y6 y7 y8 y9 y10 y11 y12 y13 y14 y15 y16 y17 y18 y19 y20 y21 y22 y23 y24 y25 y26 y27 y28 y29 y30
   unfold compositorlaw21_DemPlain.j5
   repeat' first
   | (with_reducible exact ih0 _ _ _ _ _ _ _ _ _ _ _ _ _ _ _ _ _ _ _ _ _ _ _ _ _ _ _ _ _ _ _ _)
   | (with_reducible exact ih1 _ _ _ _ _ _ _ _ _ _ _ _ _ _ _ _ _ _ _ _ _ _ _ _ _ _ _ _ _ _ _ _ _)
   | (with_reducible exact ih2 _ _ _ _ _ _ _ _ _ _ _ _ _ _ _ _ _ _ _ _ _ _ _ _ _ _ _ _ _ _ _ _)
   | (with_reducible exact ih3 _ _ _ _ _ _ _ _ _ _ _ _ _ _ _ _ _ _ _ _ _ _ _ _ _ _ _ _ _ _ _ _)
   | (with_reducible exact ih4 _ _ _ _ _ _ _ _ _ _ _ _ _ _ _ _ _ _ _ _ _ _ _ _ _ _ _ _ _ _)
   | (with_reducible exact ih5 _ _ _ _ _ _ _ _ _ _ _ _ _ _ _ _ _ _ _ _ _ _ _ _ _ _ _ _ _ _ _)
   | (with_reducible exact ih6 _ _ _ _ _ _ _ _ _ _ _ _ _ _ _ _ _ _ _ _ _ _ _ _ _ _ _ _ _)
   | (with_reducible exact ih7 _ _ _ _ _ _ _ _ _ _ _ _ _ _ _ _ _ _ _ _ _ _ _ _ _ _ _ _)
   | (with_reducible exact ih8 _ _ _ _ _ _ _ _ _ _ _ _ _ _ _ _ _ _ _ _ _ _ _ _ _ _ _ _ _)
   | (with_reducible exact compositorlaw21_awake.mono _)
   | (with_reducible exact compositorref14_Check.mono _ _ _ _ _ _ _ _ _ _ _ _ _ _ _ _ _ _ _ _ _ _)
   | (with_reducible exact dem_Own.mono _ _ _ _ _ _ _ _ _ _ _ _ _ _ _ _ _ _ _ _ _ _ _ _)
   | (with_reducible exact dem_Pair.mono _ _ _ _ _ _ _ _ _ _ _ _ _ _ _ _ _ _ _ _ _ _ _ _ _ _ _ _ _)
   | (with_reducible exact LeO.refl _)
   | (with_reducible exact LeO.none _)
   | (with_reducible refine LeO.ite ?_ ?_)
   | (with_reducible refine LeO.bind ?_ (fun _ => ?_))
   | exact ih0 _ _ _ _ _ _ _ _ _ _ _ _ _ _ _ _ _ _ _ _ _ _ _ _ _ _ _ _ _ _ _ _
   | exact ih1 _ _ _ _ _ _ _ _ _ _ _ _ _ _ _ _ _ _ _ _ _ _ _ _ _ _ _ _ _ _ _ _ _
   | exact ih2 _ _ _ _ _ _ _ _ _ _ _ _ _ _ _ _ _ _ _ _ _ _ _ _ _ _ _ _ _ _ _ _
   | exact ih3 _ _ _ _ _ _ _ _ _ _ _ _ _ _ _ _ _ _ _ _ _ _ _ _ _ _ _ _ _ _ _ _
   | exact ih4 _ _ _ _ _ _ _ _ _ _ _ _ _ _ _ _ _ _ _ _ _ _ _ _ _ _ _ _ _ _
   | exact ih5 _ _ _ _ _ _ _ _ _ _ _ _ _ _ _ _ _ _ _ _ _ _ _ _ _ _ _ _ _ _ _
   | exact ih6 _ _ _ _ _ _ _ _ _ _ _ _ _ _ _ _ _ _ _ _ _ _ _ _ _ _ _ _ _
   | exact ih7 _ _ _ _ _ _ _ _ _ _ _ _ _ _ _ _ _ _ _ _ _ _ _ _ _ _ _ _
   | exact ih8 _ _ _ _ _ _ _ _ _ _ _ _ _ _ _ _ _ _ _ _ _ _ _ _ _ _ _ _ _
   | exact compositorlaw21_awake.mono _
   | exact compositorref14_Check.mono _ _ _ _ _ _ _ _ _ _ _ _ _ _ _ _ _ _ _ _ _ _
   | exact dem_Own.mono _ _ _ _ _ _ _ _ _ _ _ _ _ _ _ _ _ _ _ _ _ _ _ _
   | exact dem_Pair.mono _ _ _ _ _ _ _ _ _ _ _ _ _ _ _ _ _ _ _ _ _ _ _ _ _ _ _ _ _
   | exact LeO.none _
   | refine LeO.ite ?_ ?_
   | refine LeO.bind ?_ (fun _ => ?_)
  ·intro y0 y1 y2 y3 y4 y5 y6 y7 y8 y9 y10 y11 y12 y13 y14 y15 y16 y17 y18 y19 y20 y21 y22 y23 y24 y25 y26 y27 y28
   unfold compositorlaw21_DemPlain.j6
   repeat' first
   | (with_reducible exact ih0 _ _ _ _ _ _ _ _ _ _ _ _ _ _ _ _ _ _ _ _ _ _ _ _ _ _ _ _ _ _ _ _)
   | (with_reducible exact ih1 _ _ _ _ _ _ _ _ _ _ _ _ _ _ _ _ _ _ _ _ _ _ _ _ _ _ _ _ _ _ _ _ _)
   | (with_reducible exact ih2 _ _ _ _ _ _ _ _ _ _ _ _ _ _ _ _ _ _ _ _ _ _ _ _ _ _ _ _ _ _ _ _)
   | (with_reducible exact ih3 _ _ _ _ _ _ _ _ _ _ _ _ _ _ _ _ _ _ _ _ _ _ _ _ _ _ _ _ _ _ _ _)
   | (with_reducible exact ih4 _ _ _ _ _ _ _ _ _ _ _ _ _ _ _ _ _ _ _ _ _ _ _ _ _ _ _ _ _ _)
   | (with_reducible exact ih5 _ _ _ _ _ _ _ _ _ _ _ _ _ _ _ _ _ _ _ _ _ _ _ _ _ _ _ _ _ _ _)
   | (with_reducible exact ih6 _ _ _ _ _ _ _ _ _ _ _ _ _ _ _ _ _ _ _ _ _ _ _ _ _ _ _ _ _)
   | (with_reducible exact ih7 _ _ _ _ _ _ _ _ _ _ _ _ _ _ _ _ _ _ _ _ _ _ _ _ _ _ _ _)
   | (with_reducible exact ih8 _ _ _ _ _ _ _ _ _ _ _ _ _ _ _ _ _ _ _ _ _ _ _ _ _ _ _ _ _)
   | (with_reducible exact compositorlaw21_awake.mono _)
   | (with_reducible exact compositorref14_Check.mono _ _ _ _ _ _ _ _ _ _ _ _ _ _ _ _ _ _ _ _ _ _)
   | (with_reducible exact dem_Own.mono _ _ _ _ _ _ _ _ _ _ _ _ _ _ _ _ _ _ _ _ _ _ _ _)
   | (with_reducible exact dem_Pair.mono _ _ _ _ _ _ _ _ _ _ _ _ _ _ _ _ _ _ _ _ _ _ _ _ _ _ _ _ _)
   | (with_reducible exact LeO.refl _)
   | (with_reducible exact LeO.none _)
   | (with_reducible refine LeO.ite ?_ ?_)
   | (with_reducible refine LeO.bind ?_ (fun _ => ?_))
   | exact ih0 _ _ _ _ _ _ _ _ _ _ _ _ _ _ _ _ _ _ _ _ _ _ _ _ _ _ _ _ _ _ _ _
   | exact ih1 _ _ _ _ _ _ _ _ _ _ _ _ _ _ _ _ _ _ _ _ _ _ _ _ _ _ _ _ _ _ _ _ _
   | exact ih2 _ _ _ _ _ _ _ _ _ _ _ _ _ _ _ _ _ _ _ _ _ _ _ _ _ _ _ _ _ _ _ _
   | exact ih3 _ _ _ _ _ _ _ _ _ _ _ _ _ _ _ _ _ _ _ _ _ _ _ _ _ _ _ _ _ _ _ _
   | exact ih4 _ _ _ _ _ _ _ _ _ _ _ _ _ _ _ _ _ _ _ _ _ _ _ _ _ _ _ _ _ _
   | exact ih5 _ _ _ _ _ _ _ _ _ _ _ _ _ _ _ _ _ _ _ _ _ _ _ _ _ _ _ _ _ _ _
   | exact ih6 _ _ _ _ _ _ _ _ _ _ _ _ _ _ _ _ _ _ _ _ _ _ _ _ _ _ _ _ _
   | exact ih7 _ _ _ _ _ _ _ _ _ _ _ _ _ _ _ _ _ _ _ _ _ _ _ _ _ _ _ _
   | exact ih8 _ _ _ _ _ _ _ _ _ _ _ _ _ _ _ _ _ _ _ _ _ _ _ _ _ _ _ _ _
   | exact compositorlaw21_awake.mono _
   | exact compositorref14_Check.mono _ _ _ _ _ _ _ _ _ _ _ _ _ _ _ _ _ _ _ _ _ _
   | exact dem_Own.mono _ _ _ _ _ _ _ _ _ _ _ _ _ _ _ _ _ _ _ _ _ _ _ _
   | exact dem_Pair.mono _ _ _ _ _ _ _ _ _ _ _ _ _ _ _ _ _ _ _ _ _ _ _ _ _ _ _ _ _
   | exact LeO.none _
   | refine LeO.ite ?_ ?_
   | refine LeO.bind ?_ (fun _ => ?_)
  ·intro y0 y1 y2 y3 y4 y5 y6 y7 y8 y9 y10 y11 y12 y13 y14 y15 y16 y17 y18 y19 y20 y21 y22 y23 y24 y25 y26 y27
   unfold compositorlaw21_DemPlain.j7
   repeat' first
   | (with_reducible exact ih0 _ _ _ _ _ _ _ _ _ _ _ _ _ _ _ _ _ _ _ _ _ _ _ _ _ _ _ _ _ _ _ _)
   | (with_reducible exact ih1 _ _ _ _ _ _ _ _ _ _ _ _ _ _ _ _ _ _ _ _ _ _ _ _ _ _ _ _ _ _ _ _ _)
   | (with_reducible exact ih2 _ _ _ _ _ _ _ _ _ _ _ _ _ _ _ _ _ _ _ _ _ _ _ _ _ _ _ _ _ _ _ _)
   | (with_reducible exact ih3 _ _ _ _ _ _ _ _ _ _ _ _ _ _ _ _ _ _ _ _ _ _ _ _ _ _ _ _ _ _ _ _)
   | (with_reducible exact ih4 _ _ _ _ _ _ _ _ _ _ _ _ _ _ _ _ _ _ _ _ _ _ _ _ _ _ _ _ _ _)
   | (with_reducible exact ih5 _ _ _ _ _ _ _ _ _ _ _ _ _ _ _ _ _ _ _ _ _ _ _ _ _ _ _ _ _ _ _)
   | (with_reducible exact ih6 _ _ _ _ _ _ _ _ _ _ _ _ _ _ _ _ _ _ _ _ _ _ _ _ _ _ _ _ _)
   | (with_reducible exact ih7 _ _ _ _ _ _ _ _ _ _ _ _ _ _ _ _ _ _ _ _ _ _ _ _ _ _ _ _)
   | (with_reducible exact ih8 _ _ _ _ _ _ _ _ _ _ _ _ _ _ _ _ _ _ _ _ _ _ _ _ _ _ _ _ _)
   | (with_reducible exact compositorlaw21_awake.mono _)
   | (with_reducible exact compositorref14_Check.mono _ _ _ _ _ _ _ _ _ _ _ _ _ _ _ _ _ _ _ _ _ _)
   | (with_reducible exact dem_Own.mono _ _ _ _ _ _ _ _ _ _ _ _ _ _ _ _ _ _ _ _ _ _ _ _)
   | (with_reducible exact dem_Pair.mono _ _ _ _ _ _ _ _ _ _ _ _ _ _ _ _ _ _ _ _ _ _ _ _ _ _ _ _ _)
   | (with_reducible exact LeO.refl _)
   | (with_reducible exact LeO.none _)
   | (with_reducible refine LeO.ite ?_ ?_)
   | (with_reducible refine LeO.bind ?_ (fun _ => ?_))
   | exact ih0 _ _ _ _ _ _ _ _ _ _ _ _ _ _ _ _ _ _ _ _ _ _ _ _ _ _ _ _ _ _ _ _
   | exact ih1 _ _ _ _ _ _ _ _ _ _ _ _ _ _ _ _ _ _ _ _ _ _ _ _ _ _ _ _ _ _ _ _ _
   | exact ih2 _ _ _ _ _ _ _ _ _ _ _ _ _ _ _ _ _ _ _ _ _ _ _ _ _ _ _ _ _ _ _ _
   | exact ih3 _ _ _ _ _ _ _ _ _ _ _ _ _ _ _ _ _ _ _ _ _ _ _ _ _ _ _ _ _ _ _ _
   | exact ih4 _ _ _ _ _ _ _ _ _ _ _ _ _ _ _ _ _ _ _ _ _ _ _ _ _ _ _ _ _ _
   | exact ih5 _ _ _ _ _ _ _ _ _ _ _ _ _ _ _ _ _ _ _ _ _ _ _ _ _ _ _ _ _ _ _
   | exact ih6 _ _ _ _ _ _ _ _ _ _ _ _ _ _ _ _ _ _ _ _ _ _ _ _ _ _ _ _ _
   | exact ih7 _ _ _ _ _ _ _ _ _ _ _ _ _ _ _ _ _ _ _ _ _ _ _ _ _ _ _ _
   | exact ih8 _ _ _ _ _ _ _ _ _ _ _ _ _ _ _ _ _ _ _ _ _ _ _ _ _ _ _ _ _
   | exact compositorlaw21_awake.mono _
   | exact compositorref14_Check.mono _ _ _ _ _ _ _ _ _ _ _ _ _ _ _ _ _ _ _ _ _ _
   | exact dem_Own.mono _ _ _ _ _ _ _ _ _ _ _ _ _ _ _ _ _ _ _ _ _ _ _ _
   | exact dem_Pair.mono _ _ _ _ _ _ _ _ _ _ _ _ _ _ _ _ _ _ _ _ _ _ _ _ _ _ _ _ _
   | exact LeO.none _
   | refine LeO.ite ?_ ?_
   | refine LeO.bind ?_ (fun _ => ?_)
  ·intro y0 y1 y2 y3 y4 y5 y6 y7 y8 y9 y10 y11 y12 y13 y14 y15 y16 y17 y18 y19 y20 y21 y22 y23 y24 y25 y26 y27 y28
   unfold compositorlaw21_DemPlain.j8
   repeat' first
   | (with_reducible exact ih0 _ _ _ _ _ _ _ _ _ _ _ _ _ _ _ _ _ _ _ _ _ _ _ _ _ _ _ _ _ _ _ _)
   | (with_reducible exact ih1 _ _ _ _ _ _ _ _ _ _ _ _ _ _ _ _ _ _ _ _ _ _ _ _ _ _ _ _ _ _ _ _ _)
   | (with_reducible exact ih2 _ _ _ _ _ _ _ _ _ _ _ _ _ _ _ _ _ _ _ _ _ _ _ _ _ _ _ _ _ _ _ _)
   | (with_reducible exact ih3 _ _ _ _ _ _ _ _ _ _ _ _ _ _ _ _ _ _ _ _ _ _ _ _ _ _ _ _ _ _ _ _)
   | (with_reducible exact ih4 _ _ _ _ _ _ _ _ _ _ _ _ _ _ _ _ _ _ _ _ _ _ _ _ _ _ _ _ _ _)
   | (with_reducible exact ih5 _ _ _ _ _ _ _ _ _ _ _ _ _ _ _ _ _ _ _ _ _ _ _ _ _ _ _ _ _ _ _)
   | (with_reducible exact ih6 _ _ _ _ _ _ _ _ _ _ _ _ _ _ _ _ _ _ _ _ _ _ _ _ _ _ _ _ _)
   | (with_reducible exact ih7 _ _ _ _ _ _ _ _ _ _ _ _ _ _ _ _ _ _ _ _ _ _ _ _ _ _ _ _)
   | (with_reducible exact ih8 _ _ _ _ _ _ _ _ _ _ _ _ _ _ _ _ _ _ _ _ _ _ _ _ _ _ _ _ _)
   | (with_reducible exact compositorlaw21_awake.mono _)
   | (with_reducible exact compositorref14_Check.mono _ _ _ _ _ _ _ _ _ _ _ _ _ _ _ _ _ _ _ _ _ _)
   | (with_reducible exact dem_Own.mono _ _ _ _ _ _ _ _ _ _ _ _ _ _ _ _ _ _ _ _ _ _ _ _)
   | (with_reducible exact dem_Pair.mono _ _ _ _ _ _ _ _ _ _ _ _ _ _ _ _ _ _ _ _ _ _ _ _ _ _ _ _ _)
   | (with_reducible exact LeO.refl _)
   | (with_reducible exact LeO.none _)
   | (with_reducible refine LeO.ite ?_ ?_)
   | (with_reducible refine LeO.bind ?_ (fun _ => ?_))
   | exact ih0 _ _ _ _ _ _ _ _ _ _ _ _ _ _ _ _ _ _ _ _ _ _ _ _ _ _ _ _ _ _ _ _
   | exact ih1 _ _ _ _ _ _ _ _ _ _ _ _ _ _ _ _ _ _ _ _ _ _ _ _ _ _ _ _ _ _ _ _ _
   | exact ih2 _ _ _ _ _ _ _ _ _ _ _ _ _ _ _ _ _ _ _ _ _ _ _ _ _ _ _ _ _ _ _ _
   | exact ih3 _ _ _ _ _ _ _ _ _ _ _ _ _ _ _ _ _ _ _ _ _ _ _ _ _ _ _ _ _ _ _ _
   | exact ih4 _ _ _ _ _ _ _ _ _ _ _ _ _ _ _ _ _ _ _ _ _ _ _ _ _ _ _ _ _ _
   | exact ih5 _ _ _ _ _ _ _ _ _ _ _ _ _ _ _ _ _ _ _ _ _ _ _ _ _ _ _ _ _ _ _
   | exact ih6 _ _ _ _ _ _ _ _ _ _ _ _ _ _ _ _ _ _ _ _ _ _ _ _ _ _ _ _ _
   | exact ih7 _ _ _ _ _ _ _ _ _ _ _ _ _ _ _ _ _ _ _ _ _ _ _ _ _ _ _ _
   | exact ih8 _ _ _ _ _ _ _ _ _ _ _ _ _ _ _ _ _ _ _ _ _ _ _ _ _ _ _ _ _
   | exact compositorlaw21_awake.mono _
   | exact compositorref14_Check.mono _ _ _ _ _ _ _ _ _ _ _ _ _ _ _ _ _ _ _ _ _ _
   | exact dem_Own.mono _ _ _ _ _ _ _ _ _ _ _ _ _ _ _ _ _ _ _ _ _ _ _ _
   | exact dem_Pair.mono _ _ _ _ _ _ _ _ _ _ _ _ _ _ _ _ _ _ _ _ _ _ _ _ _ _ _ _ _
   | exact LeO.none _
   | refine LeO.ite ?_ ?_
   | refine LeO.bind ?_ (fun _ => ?_)
theorem compositorlaw21_DemPlain.mono : ∀ a0 a1 a2 a3 a4 a5 a6 a7 a8 a9 a10 a11 a12 a13 a14 a15 a16 a17 a18 a19 a20 a21 a22 a23 a24 a25 a26 a27 a28 a29 k, LeO (compositorlaw21_DemPlain.f k a0 a1 a2 a3 a4 a5 a6 a7 a8 a9 a10 a11 a12 a13 a14 a15 a16 a17 a18 a19 a20 a21 a22 a23 a24 a25 a26 a27 a28 a29) (compositorlaw21_DemPlain.f (k + 1) a0 a1 a2 a3 a4 a5 a6 a7 a8 a9 a10 a11 a12 a13 a14 a15 a16 a17 a18 a19 a20 a21 a22 a23 a24 a25 a26 a27 a28 a29) := by
 intro a0 a1 a2 a3 a4 a5 a6 a7 a8 a9 a10 a11 a12 a13 a14 a15 a16 a17 a18 a19 a20 a21 a22 a23 a24 a25 a26 a27 a28 a29 k
 obtain ⟨ih0, ih1, ih2, ih3, ih4, ih5, ih6, ih7, ih8⟩ := compositorlaw21_DemPlain.mono_l k
 unfold compositorlaw21_DemPlain.f
 repeat' first
   | (with_reducible exact ih0 _ _ _ _ _ _ _ _ _ _ _ _ _ _ _ _ _ _ _ _ _ _ _ _ _ _ _ _ _ _ _ _)
   | (with_reducible exact ih1 _ _ _ _ _ _ _ _ _ _ _ _ _ _ _ _ _ _ _ _ _ _ _ _ _ _ _ _ _ _ _ _ _)
   | (with_reducible exact ih2 _ _ _ _ _ _ _ _ _ _ _ _ _ _ _ _ _ _ _ _ _ _ _ _ _ _ _ _ _ _ _ _)
   | (with_reducible exact ih3 _ _ _ _ _ _ _ _ _ _ _ _ _ _ _ _ _ _ _ _ _ _ _ _ _ _ _ _ _ _ _ _)
   | (with_reducible exact ih4 _ _ _ _ _ _ _ _ _ _ _ _ _ _ _ _ _ _ _ _ _ _ _ _ _ _ _ _ _ _)
   | (with_reducible exact ih5 _ _ _ _ _ _ _ _ _ _ _ _ _ _ _ _ _ _ _ _ _ _ _ _ _ _ _ _ _ _ _)
   | (with_reducible exact ih6 _ _ _ _ _ _ _ _ _ _ _ _ _ _ _ _ _ _ _ _ _ _ _ _ _ _ _ _ _)
   | (with_reducible exact ih7 _ _ _ _ _ _ _ _ _ _ _ _ _ _ _ _ _ _ _ _ _ _ _ _ _ _ _ _)
   | (with_reducible exact ih8 _ _ _ _ _ _ _ _ _ _ _ _ _ _ _ _ _ _ _ _ _ _ _ _ _ _ _ _ _)
   | (with_reducible exact compositorlaw21_awake.mono _)
   | (with_reducible exact compositorref14_Check.mono _ _ _ _ _ _ _ _ _ _ _ _ _ _ _ _ _ _ _ _ _ _)
   | (with_reducible exact dem_Own.mono _ _ _ _ _ _ _ _ _ _ _ _ _ _ _ _ _ _ _ _ _ _ _ _)
   | (with_reducible exact dem_Pair.mono _ _ _ _ _ _ _ _ _ _ _ _ _ _ _ _ _ _ _ _ _ _ _ _ _ _ _ _ _)
   | (with_reducible exact LeO.refl _)
   | (with_reducible exact LeO.none _)
   | (with_reducible refine LeO.ite ?_ ?_)
   | (with_reducible refine LeO.bind ?_ (fun _ => ?_))
   | exact ih0 _ _ _ _ _ _ _ _ _ _ _ _ _ _ _ _ _ _ _ _ _ _ _ _ _ _ _ _ _ _ _ _
   | exact ih1 _ _ _ _ _ _ _ _ _ _ _ _ _ _ _ _ _ _ _ _ _ _ _ _ _ _ _ _ _ _ _ _ _
   | exact ih2 _ _ _ _ _ _ _ _ _ _ _ _ _ _ _ _ _ _ _ _ _ _ _ _ _ _ _ _ _ _ _ _
   | exact ih3 _ _ _ _ _ _ _ _ _ _ _ _ _ _ _ _ _ _ _ _ _ _ _ _ _ _ _ _ _ _ _ _
   | exact ih4 _ _ _ _ _ _ _ _ _ _ _ _ _ _ _ _ _ _ _ _ _ _ _ _ _ _ _ _ _ _
   | exact ih5 _ _ _ _ _ _ _ _ _ _ _ _ _ _ _ _ _ _ _ _ _ _ _ _ _ _ _ _ _ _ _
   | exact ih6 _ _ _ _ _ _ _ _ _ _ _ _ _ _ _ _ _ _ _ _ _ _ _ _ _ _ _ _ _
   | exact ih7 _ _ _ _ _ _ _ _ _ _ _ _ _ _ _ _ _ _ _ _ _ _ _ _ _ _ _ _
   | exact ih8 _ _ _ _ _ _ _ _ _ _ _ _ _ _ _ _ _ _ _ _ _ _ _ _ _ _ _ _ _
   | exact compositorlaw21_awake.mono _
   | exact compositorref14_Check.mono _ _ _ _ _ _ _ _ _ _ _ _ _ _ _ _ _ _ _ _ _ _
   | exact dem_Own.mono _ _ _ _ _ _ _ _ _ _ _ _ _ _ _ _ _ _ _ _ _ _ _ _
   | exact dem_Pair.mono _ _ _ _ _ _ _ _ _ _ _ _ _ _ _ _ _ _ _ _ _ _ _ _ _ _ _ _ _
   | exact LeO.none _
   | refine LeO.ite ?_ ?_
   | refine LeO.bind ?_ (fun _ => ?_)
def compositorlaw21_DemPlain.T13 : Bool × List (List Nat × List Nat) := (true, [([], []), ([], []), ([], []), ([0, 1, 2], [0, 1, 2]), ([], []), ([4], [4]), ([], []), ([5, 6], [5, 6]), ([], []), ([8], [8]), ([], []), ([9, 10], [9, 10]), ([7, 11], [7, 11]), ([3, 12], [3, 12]), ([13, 3, 0, 1, 2, 3, 4, 5, 6, 7, 8, 9, 10, 11, 12, 13], [13])])
def compositorlaw21_DemPlain.B13 : List Nat := [0, 0, 0, 7, 0, 16, 0, 112, 0, 256, 0, 1792, 4080, 8191, 16383]
theorem compositorlaw21_DemPlain.tab13 : rtab .any (opsOf Try.f4 13) = compositorlaw21_DemPlain.T13 := by kernel_rfl
theorem compositorlaw21_DemPlain.bits13 : waitsOk compositorlaw21_DemPlain.T13.2 compositorlaw21_DemPlain.B13 = true := by kernel_rfl
set_option maxHeartbeats 8000000 in
set_option maxRecDepth 100000 in
theorem compositorlaw21_DemPlain.calls (k : Nat) (a0_0 : Int) (a0_1 : Int) (a0_2 : Int) (a0_3 : Int) (A0_4 : Option Addr) (c0_4 : Nat) (l0_4 : List (S47)) (a0_5 : Int) (a0_6 : Int) (a0_7 : Int) (a0_8 : Int) (a0_9 : Int) (a0_10 : Int) (a0_11 : Int) (a0_12 : Int) (a0_13 : Int) (a0_14 : Int) (a0_15 : Int) (a0_16 : Int) (a0_17 : Int) (a0_18 : Int) (a0_19 : Int) (a0_20 : Int) (a1 : Int) (a2 : Int) (a3_0 : Int) (a3_1 : Int) (a3_2 : Int) (a4_0 : Int) (a4_1 : Int) (a4_2 : Int) (a5 : Int) (r : Bool) (w : World) (hr0_4 : Kd.C k47 w A0_4 l0_4.length l0_4) (hc0_4 : l0_4.length ≤ c0_4) (h : compositorlaw21_DemPlain.f k a0_0 a0_1 a0_2 a0_3 l0_4 a0_5 a0_6 a0_7 a0_8 a0_9 a0_10 a0_11 a0_12 a0_13 a0_14 a0_15 a0_16 a0_17 a0_18 a0_19 a0_20 a1 a2 a3_0 a3_1 a3_2 a4_0 a4_1 a4_2 a5 = some r) :
  Calls Try.prog 4 #[.agg #[.int .i64 a0_0, .int .i64 a0_1, .int .i64 a0_2, .int .i64 a0_3, .slice A0_4 l0_4.length c0_4, .int .i64 a0_5, .int .i64 a0_6, .int .i64 a0_7, .int .i64 a0_8, .int .i64 a0_9, .int .i64 a0_10, .int .i64 a0_11, .int .i64 a0_12, .int .i64 a0_13, .int .i64 a0_14, .int .i64 a0_15, .int .i64 a0_16, .int .i64 a0_17, .int .i64 a0_18, .int .i64 a0_19, .int .i64 a0_20], .int .u16 a1, .int .u8 a2, .agg #[.int .i64 a3_0, .int .i64 a3_1, .int .i64 a3_2], .agg #[.int .i64 a4_0, .int .i64 a4_1, .int .i64 a4_2], .int .u8 a5] w fun e w' => e = .returned (.bool r) ∧ Below w.heap.size w w' := by
 have hu24 := Try.underlying24
 have hu26 := Try.underlying26
 have HR0_4 := Aside0.mk hr0_4
 have HC0_4 := Aside0.mk hc0_4
 clear hr0_4 hc0_4
 have HB := Aside0.mk (Below.refl w.heap.size w)
 have H : ((compositorlaw21_awake.f k).bind fun t223 => (if (l0_4.length : Int) > 100 then (compositorlaw21_DemPlain.j0 k a1 a2 a5 t223 true a0_0 a0_1 a0_2 a0_3 l0_4 a0_5 a0_6 a0_7 a0_8 a0_9 a0_10 a0_11 a0_12 a0_13 a0_14 a0_15 a0_16 a0_17 0 0 a0_20 a3_0 a3_1 a3_2 a4_0 a4_1 a4_2) else ((compositorref14_Check.f k a0_0 a0_1 a0_2 a0_3 l0_4 a0_5 a0_6 a0_7 a0_8 a0_9 a0_10 a0_11 a0_12 a0_13 a0_14 a0_15 a0_16 a0_17 0 0 a0_20).bind fun t224 => (compositorlaw21_DemPlain.j0 k a1 a2 a5 t223 (!t224) a0_0 a0_1 a0_2 a0_3 l0_4 a0_5 a0_6 a0_7 a0_8 a0_9 a0_10 a0_11 a0_12 a0_13 a0_14 a0_15 a0_16 a0_17 0 0 a0_20 a3_0 a3_1 a3_2 a4_0 a4_1 a4_2)))) = some r := h
 clear h
 replace H := Option.bind_eq_some_iff.mp H
 obtain ⟨t223, A70, H⟩ := H
 replace H : (if (l0_4.length : Int) > 100 then (compositorlaw21_DemPlain.j0 k a1 a2 a5 t223 true a0_0 a0_1 a0_2 a0_3 l0_4 a0_5 a0_6 a0_7 a0_8 a0_9 a0_10 a0_11 a0_12 a0_13 a0_14 a0_15 a0_16 a0_17 0 0 a0_20 a3_0 a3_1 a3_2 a4_0 a4_1 a4_2) else ((compositorref14_Check.f k a0_0 a0_1 a0_2 a0_3 l0_4 a0_5 a0_6 a0_7 a0_8 a0_9 a0_10 a0_11 a0_12 a0_13 a0_14 a0_15 a0_16 a0_17 0 0 a0_20).bind fun t224 => (compositorlaw21_DemPlain.j0 k a1 a2 a5 t223 (!t224) a0_0 a0_1 a0_2 a0_3 l0_4 a0_5 a0_6 a0_7 a0_8 a0_9 a0_10 a0_11 a0_12 a0_13 a0_14 a0_15 a0_16 a0_17 0 0 a0_20 a3_0 a3_1 a3_2 a4_0 a4_1 a4_2))) = some r := H
 have A7 := Aside0.mk A70
 clear A70
 have HC8 := Aside0.mk H
 clear H
 go_enter Try.func4, Try.ntmps4
 go_upto_region 4 with (first | ((with_reducible refine gate_load (T := 24) rfl ?_); refine load_row_event (by first | rfl | (go_simp; done)) 24 _ rfl gb220 rfl 24 _ (0, 0) _ (by (with_reducible repeat (first | refine blk_drewN ?_ _ | refine blk_drew ?_ | refine blk_alloc ?_ _)); first | with_reducible exact BK220.out | with_reducible exact (blk_far BK220.out NB220_221.out _) | with_reducible exact (blk_far (blk_far BK220.out NB220_221.out _) NB220_221.out _) | with_reducible exact (blk_far (blk_far (blk_far BK220.out NB220_221.out _) NB220_221.out _) NB220_221.out _) | with_reducible exact (blk_far BK220.out NB220_222.out _) | with_reducible exact (blk_far (blk_far BK220.out NB220_222.out _) NB220_222.out _) | with_reducible exact (blk_far (blk_far (blk_far BK220.out NB220_222.out _) NB220_222.out _) NB220_222.out _)) hu24 rfl (by kernel_rfl) ?_) | ((with_reducible refine gate_store (t := 24) rfl ?_); refine store_row_event (base := w.heap.size) rfl rfl 24 _ _ rfl (g := gb220) (by rfl) (by rfl) (by (with_reducible repeat (first | refine blk_drewN ?_ _ | refine blk_drew ?_ | refine blk_alloc ?_ _)); exact BK220.out) (by kernel_rfl) (by rfl) (by rfl) GE220.out ?_; intro ws_ hs_ hk_ hb_; have n0_ := Aside0.mk (Below.trans (by repeat (first | (with_reducible first | exact HB.out | apply below_alloc | apply pw_below_drewN | apply below_drew1) | exact HB.out)) hb_); clear HB; have HB := n0_; clear n0_; clear BK220; have BK220 := Aside0.mk hs_; clear hs_; (try (have z_ := Aside0.mk (blk_else BK221.out NB221_220.out hk_); clear BK221; have BK221 := z_; clear z_)); (try (have z_ := Aside0.mk (blk_else BK222.out NB222_220.out hk_); clear BK222; have BK222 := z_; clear z_)); have hxs_ := blk_cell BK220.out; have hys_ := blk_frozen BK220.out; clear hk_ hb_) | ((with_reducible refine gate_dst (N := 6) rfl ?_); refine box_event ?hg (N := 6) ?hd (cs := #[.int .i64 a0_0, .int .i64 a0_1, .int .i64 a0_2, .int .i64 a0_3, .slice A0_4 l0_4.length c0_4, .int .i64 a0_5, .int .i64 a0_6, .int .i64 a0_7, .int .i64 a0_8, .int .i64 a0_9, .int .i64 a0_10, .int .i64 a0_11, .int .i64 a0_12, .int .i64 a0_13, .int .i64 a0_14, .int .i64 a0_15, .int .i64 a0_16, .int .i64 a0_17, .int .i64 a0_18, .int .i64 a0_19, .int .i64 a0_20]) (t := 24) ?hr ?_; (case hd => rfl); (case hg => rfl); (case hr => first | (go_simp; done) | (go_simp; rfl)); intro gb220 hg w9 hbox hb; have n0_ := Aside0.mk (below_step (by repeat (first | (with_reducible first | exact HB.out | apply below_alloc | apply pw_below_drewN | apply below_drew1) | exact HB.out)) hb); have n1_ := Aside0.mk (hbox); have n2_ := Aside0.mk ((by rw [hg]; exact (below_size (by repeat (first | (with_reducible first | exact HB.out | apply below_alloc | apply pw_below_drewN | apply below_drew1) | exact HB.out))) : w.heap.size ≤ gb220)); have n3_ := Aside0.mk ((by rw [hg]; exact (below_size (by repeat (first | (with_reducible first | exact HB.out | apply below_alloc | apply pw_below_drewN | apply below_drew1) | exact HB.out))) : w.heap.size ≤ gb220)); clear HB; have HB := n0_; have BK220 := n1_; have GW220 := n2_; have GE220 := n3_; clear n0_ n1_ n2_ n3_; clear hb hbox hg) | ((with_reducible refine gate_dst (N := 9) rfl ?_); refine box_event ?hg (N := 9) ?hd (cs := #[.int .i64 a3_0, .int .i64 a3_1, .int .i64 a3_2]) (t := 26) ?hr ?_; (case hd => rfl); (case hg => rfl); (case hr => first | (go_simp; done) | (go_simp; rfl)); intro gb221 hg w10 hbox hb; have n0_ := Aside0.mk (blk_below (g := gb220) (o := .cells #[.int .i64 a0_0, .int .i64 a0_1, .int .i64 a0_2, .int .i64 a0_3, .slice A0_4 l0_4.length c0_4, .int .i64 a0_5, .int .i64 a0_6, .int .i64 a0_7, .int .i64 a0_8, .int .i64 a0_9, .int .i64 a0_10, .int .i64 a0_11, .int .i64 a0_12, .int .i64 a0_13, .int .i64 a0_14, .int .i64 a0_15, .int .i64 a0_16, .int .i64 a0_17, .int .i64 a0_18, .int .i64 a0_19, .int .i64 a0_20] 24 (0, 0)) (by (with_reducible repeat (first | refine blk_drewN ?_ _ | refine blk_drew ?_ | refine blk_alloc ?_ _)); exact BK220.out) hb); have n1_ := Aside0.mk (below_step (by repeat (first | (with_reducible first | exact HB.out | apply below_alloc | apply pw_below_drewN | apply below_drew1 | refine below_set ?_ GE220.out) | exact HB.out)) hb); have n2_ := Aside0.mk (hbox); have n3_ := Aside0.mk ((by rw [hg]; exact (below_size (by repeat (first | (with_reducible first | exact HB.out | apply below_alloc | apply pw_below_drewN | apply below_drew1 | refine below_set ?_ GE220.out) | exact HB.out))) : w.heap.size ≤ gb221)); have n4_ := Aside0.mk ((by rw [hg]; exact (below_size (by repeat (first | (with_reducible first | exact HB.out | apply below_alloc | apply pw_below_drewN | apply below_drew1 | refine below_set ?_ GE220.out) | exact HB.out))) : w.heap.size ≤ gb221)); have n5_ := Aside0.mk ((by rw [hg]; exact Nat.ne_of_lt (blk_lt (g := gb220) (o := .cells #[.int .i64 a0_0, .int .i64 a0_1, .int .i64 a0_2, .int .i64 a0_3, .slice A0_4 l0_4.length c0_4, .int .i64 a0_5, .int .i64 a0_6, .int .i64 a0_7, .int .i64 a0_8, .int .i64 a0_9, .int .i64 a0_10, .int .i64 a0_11, .int .i64 a0_12, .int .i64 a0_13, .int .i64 a0_14, .int .i64 a0_15, .int .i64 a0_16, .int .i64 a0_17, .int .i64 a0_18, .int .i64 a0_19, .int .i64 a0_20] 24 (0, 0)) (by (with_reducible repeat (first | refine blk_drewN ?_ _ | refine blk_drew ?_ | refine blk_alloc ?_ _)); exact BK220.out)) : gb220 ≠ gb221)); have n6_ := Aside0.mk ((by rw [hg]; exact Nat.ne_of_gt (blk_lt (g := gb220) (o := .cells #[.int .i64 a0_0, .int .i64 a0_1, .int .i64 a0_2, .int .i64 a0_3, .slice A0_4 l0_4.length c0_4, .int .i64 a0_5, .int .i64 a0_6, .int .i64 a0_7, .int .i64 a0_8, .int .i64 a0_9, .int .i64 a0_10, .int .i64 a0_11, .int .i64 a0_12, .int .i64 a0_13, .int .i64 a0_14, .int .i64 a0_15, .int .i64 a0_16, .int .i64 a0_17, .int .i64 a0_18, .int .i64 a0_19, .int .i64 a0_20] 24 (0, 0)) (by (with_reducible repeat (first | refine blk_drewN ?_ _ | refine blk_drew ?_ | refine blk_alloc ?_ _)); exact BK220.out)) : gb221 ≠ gb220)); clear BK220; clear HB; have BK220 := n0_; have HB := n1_; have BK221 := n2_; have GW221 := n3_; have GE221 := n4_; have NB220_221 := n5_; have NB221_220 := n6_; clear n0_ n1_ n2_ n3_ n4_ n5_ n6_; clear hb hbox hg) | ((with_reducible refine gate_dst (N := 10) rfl ?_); refine box_event ?hg (N := 10) ?hd (cs := #[.int .i64 a4_0, .int .i64 a4_1, .int .i64 a4_2]) (t := 26) ?hr ?_; (case hd => rfl); (case hg => rfl); (case hr => first | (go_simp; done) | (go_simp; rfl)); intro gb222 hg w11 hbox hb; have n0_ := Aside0.mk (blk_below (g := gb220) (o := .cells #[.int .i64 a0_0, .int .i64 a0_1, .int .i64 a0_2, .int .i64 a0_3, .slice A0_4 l0_4.length c0_4, .int .i64 a0_5, .int .i64 a0_6, .int .i64 a0_7, .int .i64 a0_8, .int .i64 a0_9, .int .i64 a0_10, .int .i64 a0_11, .int .i64 a0_12, .int .i64 a0_13, .int .i64 a0_14, .int .i64 a0_15, .int .i64 a0_16, .int .i64 a0_17, .int .i64 a0_18, .int .i64 a0_19, .int .i64 a0_20] 24 (0, 0)) (by (with_reducible repeat (first | refine blk_drewN ?_ _ | refine blk_drew ?_ | refine blk_alloc ?_ _)); exact BK220.out) hb); have n1_ := Aside0.mk (blk_below (g := gb221) (o := .cells #[.int .i64 a3_0, .int .i64 a3_1, .int .i64 a3_2] 26 (0, 0)) (by (with_reducible repeat (first | refine blk_drewN ?_ _ | refine blk_drew ?_ | refine blk_alloc ?_ _)); exact BK221.out) hb); have n2_ := Aside0.mk (below_step (by repeat (first | (with_reducible first | exact HB.out | apply below_alloc | apply pw_below_drewN | apply below_drew1 | refine below_set ?_ GE220.out | refine below_set ?_ GE221.out) | exact HB.out)) hb); have n3_ := Aside0.mk (hbox); have n4_ := Aside0.mk ((by rw [hg]; exact (below_size (by repeat (first | (with_reducible first | exact HB.out | apply below_alloc | apply pw_below_drewN | apply below_drew1 | refine below_set ?_ GE220.out | refine below_set ?_ GE221.out) | exact HB.out))) : w.heap.size ≤ gb222)); have n5_ := Aside0.mk ((by rw [hg]; exact (below_size (by repeat (first | (with_reducible first | exact HB.out | apply below_alloc | apply pw_below_drewN | apply below_drew1 | refine below_set ?_ GE220.out | refine below_set ?_ GE221.out) | exact HB.out))) : w.heap.size ≤ gb222)); have n6_ := Aside0.mk ((by rw [hg]; exact Nat.ne_of_lt (blk_lt (g := gb220) (o := .cells #[.int .i64 a0_0, .int .i64 a0_1, .int .i64 a0_2, .int .i64 a0_3, .slice A0_4 l0_4.length c0_4, .int .i64 a0_5, .int .i64 a0_6, .int .i64 a0_7, .int .i64 a0_8, .int .i64 a0_9, .int .i64 a0_10, .int .i64 a0_11, .int .i64 a0_12, .int .i64 a0_13, .int .i64 a0_14, .int .i64 a0_15, .int .i64 a0_16, .int .i64 a0_17, .int .i64 a0_18, .int .i64 a0_19, .int .i64 a0_20] 24 (0, 0)) (by (with_reducible repeat (first | refine blk_drewN ?_ _ | refine blk_drew ?_ | refine blk_alloc ?_ _)); exact BK220.out)) : gb220 ≠ gb222)); have n7_ := Aside0.mk ((by rw [hg]; exact Nat.ne_of_gt (blk_lt (g := gb220) (o := .cells #[.int .i64 a0_0, .int .i64 a0_1, .int .i64 a0_2, .int .i64 a0_3, .slice A0_4 l0_4.length c0_4, .int .i64 a0_5, .int .i64 a0_6, .int .i64 a0_7, .int .i64 a0_8, .int .i64 a0_9, .int .i64 a0_10, .int .i64 a0_11, .int .i64 a0_12, .int .i64 a0_13, .int .i64 a0_14, .int .i64 a0_15, .int .i64 a0_16, .int .i64 a0_17, .int .i64 a0_18, .int .i64 a0_19, .int .i64 a0_20] 24 (0, 0)) (by (with_reducible repeat (first | refine blk_drewN ?_ _ | refine blk_drew ?_ | refine blk_alloc ?_ _)); exact BK220.out)) : gb222 ≠ gb220)); have n8_ := Aside0.mk ((by rw [hg]; exact Nat.ne_of_lt (blk_lt (g := gb221) (o := .cells #[.int .i64 a3_0, .int .i64 a3_1, .int .i64 a3_2] 26 (0, 0)) (by (with_reducible repeat (first | refine blk_drewN ?_ _ | refine blk_drew ?_ | refine blk_alloc ?_ _)); exact BK221.out)) : gb221 ≠ gb222)); have n9_ := Aside0.mk ((by rw [hg]; exact Nat.ne_of_gt (blk_lt (g := gb221) (o := .cells #[.int .i64 a3_0, .int .i64 a3_1, .int .i64 a3_2] 26 (0, 0)) (by (with_reducible repeat (first | refine blk_drewN ?_ _ | refine blk_drew ?_ | refine blk_alloc ?_ _)); exact BK221.out)) : gb222 ≠ gb221)); clear BK220; clear BK221; clear HB; have BK220 := n0_; have BK221 := n1_; have HB := n2_; have BK222 := n3_; have GW222 := n4_; have GE222 := n5_; have NB220_222 := n6_; have NB222_220 := n7_; have NB221_222 := n8_; have NB222_221 := n9_; clear n0_ n1_ n2_ n3_ n4_ n5_ n6_ n7_ n8_ n9_; clear hb hbox hg) | ((with_reducible refine gate_callee (f := 8) rfl ?_); refine goesL_ (some 23) rfl rfl Try.func8 (by kernel_rfl) rfl #[] rfl (by (try simp only [List.map_toArray, List.map_cons, List.map_nil]); first | done | rfl | (simp only [List.length_drop, List.length_take]; rfl)) ?_; (with_reducible refine (compositorlaw21_awake.calls k  t223 _ A7.out).mono ?_); rintro e w12 ⟨rfl, hb⟩; refine ⟨_, rfl, ?_⟩; have n0_ := Aside0.mk (blk_below (g := gb220) (o := .cells #[.int .i64 a0_0, .int .i64 a0_1, .int .i64 a0_2, .int .i64 a0_3, .slice A0_4 l0_4.length c0_4, .int .i64 a0_5, .int .i64 a0_6, .int .i64 a0_7, .int .i64 a0_8, .int .i64 a0_9, .int .i64 a0_10, .int .i64 a0_11, .int .i64 a0_12, .int .i64 a0_13, .int .i64 a0_14, .int .i64 a0_15, .int .i64 a0_16, .int .i64 a0_17, .int .i64 a0_18, .int .i64 a0_19, .int .i64 a0_20] 24 (0, 0)) (by (with_reducible repeat (first | refine blk_drewN ?_ _ | refine blk_drew ?_ | refine blk_alloc ?_ _)); exact BK220.out) hb); have n1_ := Aside0.mk (blk_below (g := gb221) (o := .cells #[.int .i64 a3_0, .int .i64 a3_1, .int .i64 a3_2] 26 (0, 0)) (by (with_reducible repeat (first | refine blk_drewN ?_ _ | refine blk_drew ?_ | refine blk_alloc ?_ _)); exact BK221.out) hb); have n2_ := Aside0.mk (blk_below (g := gb222) (o := .cells #[.int .i64 a4_0, .int .i64 a4_1, .int .i64 a4_2] 26 (0, 0)) (by (with_reducible repeat (first | refine blk_drewN ?_ _ | refine blk_drew ?_ | refine blk_alloc ?_ _)); exact BK222.out) hb); have n3_ := Aside0.mk (below_step (by repeat (first | (with_reducible first | exact HB.out | apply below_alloc | apply pw_below_drewN | apply below_drew1 | refine below_set ?_ GE220.out | refine below_set ?_ GE221.out | refine below_set ?_ GE222.out) | exact HB.out)) hb); clear BK220; clear BK221; clear BK222; clear HB; have BK220 := n0_; have BK221 := n1_; have BK222 := n2_; have HB := n3_; clear n0_ n1_ n2_ n3_; (try clear hb); (try clear hb2); (try clear hk); (try clear hi); have hnb13 := NB220_221.out; have hnc13 := NB221_220.out; have hnb14 := NB220_222.out; have hnc14 := NB222_220.out; have hcz15_0 := blk_cell BK220.out; have hfz15_0 := blk_frozen BK220.out))
 (try simp only [Act.put, List.setIfInBounds_toArray, List.set_cons_zero, List.set_cons_succ])
 go_cut [34] (fun v34 wc => ∃ (kq : Nat) (x34_7 : Bool), v34 = .bool x34_7 ∧ Aside0 (compositorlaw21_DemPlain.j0 kq a1 a2 a5 t223 x34_7 a0_0 a0_1 a0_2 a0_3 l0_4 a0_5 a0_6 a0_7 a0_8 a0_9 a0_10 a0_11 a0_12 a0_13 a0_14 a0_15 a0_16 a0_17 0 0 a0_20 a3_0 a3_1 a3_2 a4_0 a4_1 a4_2 = some r) ∧ Aside0 (kq ≤ k) ∧ Aside0 (wc.heap[gb220]? = some (.cells #[.int .i64 a0_0, .int .i64 a0_1, .int .i64 a0_2, .int .i64 a0_3, (.slice A0_4 l0_4.length c0_4), .int .i64 a0_5, .int .i64 a0_6, .int .i64 a0_7, .int .i64 a0_8, .int .i64 a0_9, .int .i64 a0_10, .int .i64 a0_11, .int .i64 a0_12, .int .i64 a0_13, .int .i64 a0_14, .int .i64 a0_15, .int .i64 a0_16, .int .i64 a0_17, .int .i64 0, .int .i64 0, .int .i64 a0_20] 24 (0, 0))) ∧ Aside0 (wc.heap[gb221]? = some (.cells #[.int .i64 a3_0, .int .i64 a3_1, .int .i64 a3_2] 26 (0, 0))) ∧ Aside0 (wc.heap[gb222]? = some (.cells #[.int .i64 a4_0, .int .i64 a4_1, .int .i64 a4_2] 26 (0, 0))) ∧ Aside0 (Below w.heap.size w wc))
 case first => as_aux_lemma =>
  have H := HC8.out
  clear HC8
  by_cases c16 : (l0_4.length : Int) > 100
  ·rw [if_pos c16] at H
   have c16b0 : decide (100 < (l0_4.length : Int)) = true := decide_eq_true c16
   have c16b1 : decide (100 < l0_4.length) = true := decide_eq_true (by omega)
   clear c16
   (first | rw [c16b0] | (simp only [i64_w, i32_w]; rw [c16b0]) | skip)
   have H' := Aside0.mk H
   clear H
   have hnb17 := NB220_221.out
   have hnc17 := NB221_220.out
   have hnb18 := NB220_222.out
   have hnc18 := NB222_220.out
   have hcz19_0 := blk_cell BK220.out
   have hfz19_0 := blk_frozen BK220.out
   go_wp2
   go_meet
   case rel => exact ⟨_, (true), (by first | rfl | (simp; done) | (simp [*]; done)), H', ⟨by first | omega | exact Nat.le_refl _⟩, ⟨by (with_reducible repeat (first | refine blk_drewN ?_ _ | refine blk_drew ?_ | refine blk_alloc ?_ _)); refine blk_put (cs := #[.int .i64 a0_0, .int .i64 a0_1, .int .i64 a0_2, .int .i64 a0_3, .slice A0_4 l0_4.length c0_4, .int .i64 a0_5, .int .i64 a0_6, .int .i64 a0_7, .int .i64 a0_8, .int .i64 a0_9, .int .i64 a0_10, .int .i64 a0_11, .int .i64 a0_12, .int .i64 a0_13, .int .i64 a0_14, .int .i64 a0_15, .int .i64 a0_16, .int .i64 a0_17, .int .i64 0, .int .i64 a0_19, .int .i64 a0_20]) ?_ 19 _ rfl; (with_reducible repeat (first | refine blk_drewN ?_ _ | refine blk_drew ?_ | refine blk_alloc ?_ _)); refine blk_put (cs := #[.int .i64 a0_0, .int .i64 a0_1, .int .i64 a0_2, .int .i64 a0_3, .slice A0_4 l0_4.length c0_4, .int .i64 a0_5, .int .i64 a0_6, .int .i64 a0_7, .int .i64 a0_8, .int .i64 a0_9, .int .i64 a0_10, .int .i64 a0_11, .int .i64 a0_12, .int .i64 a0_13, .int .i64 a0_14, .int .i64 a0_15, .int .i64 a0_16, .int .i64 a0_17, .int .i64 a0_18, .int .i64 a0_19, .int .i64 a0_20]) ?_ 18 _ rfl; (with_reducible repeat (first | refine blk_drewN ?_ _ | refine blk_drew ?_ | refine blk_alloc ?_ _)); exact BK220.out⟩, ⟨by (with_reducible repeat (first | refine blk_drewN ?_ _ | refine blk_drew ?_ | refine blk_alloc ?_ _)); refine blk_far ?_ NB221_220.out _; (with_reducible repeat (first | refine blk_drewN ?_ _ | refine blk_drew ?_ | refine blk_alloc ?_ _)); refine blk_far ?_ NB221_220.out _; (with_reducible repeat (first | refine blk_drewN ?_ _ | refine blk_drew ?_ | refine blk_alloc ?_ _)); exact BK221.out⟩, ⟨by (with_reducible repeat (first | refine blk_drewN ?_ _ | refine blk_drew ?_ | refine blk_alloc ?_ _)); refine blk_far ?_ NB222_220.out _; (with_reducible repeat (first | refine blk_drewN ?_ _ | refine blk_drew ?_ | refine blk_alloc ?_ _)); refine blk_far ?_ NB222_220.out _; (with_reducible repeat (first | refine blk_drewN ?_ _ | refine blk_drew ?_ | refine blk_alloc ?_ _)); exact BK222.out⟩, ⟨by repeat (first | (with_reducible first | exact HB.out | apply below_alloc | apply pw_below_drewN | apply below_drew1 | refine below_set ?_ GE220.out | refine below_set ?_ GE221.out | refine below_set ?_ GE222.out) | exact HB.out)⟩⟩
  ·rw [if_neg c16] at H
   have c16b0 : decide (100 < (l0_4.length : Int)) = false := decide_eq_false c16
   have c16b1 : decide (100 < l0_4.length) = false := decide_eq_false (by omega)
   clear c16
   (first | rw [c16b0] | (simp only [i64_w, i32_w]; rw [c16b0]) | skip)
   replace H := Option.bind_eq_some_iff.mp H
   obtain ⟨t224, A200, H⟩ := H
   replace H : (compositorlaw21_DemPlain.j0 k a1 a2 a5 t223 (!t224) a0_0 a0_1 a0_2 a0_3 l0_4 a0_5 a0_6 a0_7 a0_8 a0_9 a0_10 a0_11 a0_12 a0_13 a0_14 a0_15 a0_16 a0_17 0 0 a0_20 a3_0 a3_1 a3_2 a4_0 a4_1 a4_2) = some r := H
   have A20 := Aside0.mk A200
   clear A200
   have H' := Aside0.mk H
   clear H
   have hnb21 := NB220_221.out
   have hnc21 := NB221_220.out
   have hnb22 := NB220_222.out
   have hnc22 := NB222_220.out
   have hcz23_0 := blk_cell BK220.out
   have hfz23_0 := blk_frozen BK220.out
   go_wp2_with (first | ((with_reducible refine gate_load (T := 24) rfl ?_); refine load_row_event (by first | rfl | (go_simp; done)) 24 _ rfl gb220 rfl 24 #[.int .i64 a0_0, .int .i64 a0_1, .int .i64 a0_2, .int .i64 a0_3, .slice A0_4 l0_4.length c0_4, .int .i64 a0_5, .int .i64 a0_6, .int .i64 a0_7, .int .i64 a0_8, .int .i64 a0_9, .int .i64 a0_10, .int .i64 a0_11, .int .i64 a0_12, .int .i64 a0_13, .int .i64 a0_14, .int .i64 a0_15, .int .i64 a0_16, .int .i64 a0_17, .int .i64 0, .int .i64 0, .int .i64 a0_20] (0, 0) _ (by (with_reducible repeat (first | refine blk_drewN ?_ _ | refine blk_drew ?_ | refine blk_alloc ?_ _)); refine blk_put (cs := #[.int .i64 a0_0, .int .i64 a0_1, .int .i64 a0_2, .int .i64 a0_3, .slice A0_4 l0_4.length c0_4, .int .i64 a0_5, .int .i64 a0_6, .int .i64 a0_7, .int .i64 a0_8, .int .i64 a0_9, .int .i64 a0_10, .int .i64 a0_11, .int .i64 a0_12, .int .i64 a0_13, .int .i64 a0_14, .int .i64 a0_15, .int .i64 a0_16, .int .i64 a0_17, .int .i64 0, .int .i64 a0_19, .int .i64 a0_20]) ?_ 19 _ rfl; (with_reducible repeat (first | refine blk_drewN ?_ _ | refine blk_drew ?_ | refine blk_alloc ?_ _)); refine blk_put (cs := #[.int .i64 a0_0, .int .i64 a0_1, .int .i64 a0_2, .int .i64 a0_3, .slice A0_4 l0_4.length c0_4, .int .i64 a0_5, .int .i64 a0_6, .int .i64 a0_7, .int .i64 a0_8, .int .i64 a0_9, .int .i64 a0_10, .int .i64 a0_11, .int .i64 a0_12, .int .i64 a0_13, .int .i64 a0_14, .int .i64 a0_15, .int .i64 a0_16, .int .i64 a0_17, .int .i64 a0_18, .int .i64 a0_19, .int .i64 a0_20]) ?_ 18 _ rfl; (with_reducible repeat (first | refine blk_drewN ?_ _ | refine blk_drew ?_ | refine blk_alloc ?_ _)); exact BK220.out) hu24 rfl (by kernel_rfl) ?_) | ((with_reducible refine gate_load (T := 24) rfl ?_); refine load_row_event (by first | rfl | (go_simp; done)) 24 _ rfl gb220 rfl 24 _ (0, 0) _ (by (with_reducible repeat (first | refine blk_drewN ?_ _ | refine blk_drew ?_ | refine blk_alloc ?_ _)); first | with_reducible exact BK220.out | with_reducible exact (blk_far BK220.out NB220_221.out _) | with_reducible exact (blk_far (blk_far BK220.out NB220_221.out _) NB220_221.out _) | with_reducible exact (blk_far (blk_far (blk_far BK220.out NB220_221.out _) NB220_221.out _) NB220_221.out _) | with_reducible exact (blk_far BK220.out NB220_222.out _) | with_reducible exact (blk_far (blk_far BK220.out NB220_222.out _) NB220_222.out _) | with_reducible exact (blk_far (blk_far (blk_far BK220.out NB220_222.out _) NB220_222.out _) NB220_222.out _)) hu24 rfl (by kernel_rfl) ?_) | ((with_reducible refine gate_store (t := 24) rfl ?_); refine store_row_event (base := w.heap.size) rfl rfl 24 _ _ rfl (g := gb220) (by rfl) (by rfl) (by (with_reducible repeat (first | refine blk_drewN ?_ _ | refine blk_drew ?_ | refine blk_alloc ?_ _)); exact BK220.out) (by kernel_rfl) (by rfl) (by rfl) GE220.out ?_; intro ws_ hs_ hk_ hb_; have n0_ := Aside0.mk (Below.trans (by repeat (first | (with_reducible first | exact HB.out | apply below_alloc | apply pw_below_drewN | apply below_drew1) | exact HB.out)) hb_); clear HB; have HB := n0_; clear n0_; clear BK220; have BK220 := Aside0.mk hs_; clear hs_; (try (have z_ := Aside0.mk (blk_else BK221.out NB221_220.out hk_); clear BK221; have BK221 := z_; clear z_)); (try (have z_ := Aside0.mk (blk_else BK222.out NB222_220.out hk_); clear BK222; have BK222 := z_; clear z_)); have hxs_ := blk_cell BK220.out; have hys_ := blk_frozen BK220.out; clear hk_ hb_) | (go_at_call 15; (with_reducible refine (compositorref14_Check.calls k a0_0 a0_1 a0_2 a0_3 _ _ l0_4 a0_5 a0_6 a0_7 a0_8 a0_9 a0_10 a0_11 a0_12 a0_13 a0_14 a0_15 a0_16 a0_17 0 0 a0_20 t224 _ ?side1 ?side2 A20.out).mono ?_); (case side1 => exact Kd.C_below HR0_4.out (by repeat (first | (with_reducible first | exact HB.out | apply below_alloc | apply pw_below_drewN | apply below_drew1 | refine below_set ?_ GE220.out | refine below_set ?_ GE221.out | refine below_set ?_ GE222.out) | exact HB.out))); (case side2 => exact HC0_4.out); rintro e w24 ⟨rfl, hb⟩; have n0_ := Aside0.mk (blk_below (g := gb220) (o := .cells #[.int .i64 a0_0, .int .i64 a0_1, .int .i64 a0_2, .int .i64 a0_3, .slice A0_4 l0_4.length c0_4, .int .i64 a0_5, .int .i64 a0_6, .int .i64 a0_7, .int .i64 a0_8, .int .i64 a0_9, .int .i64 a0_10, .int .i64 a0_11, .int .i64 a0_12, .int .i64 a0_13, .int .i64 a0_14, .int .i64 a0_15, .int .i64 a0_16, .int .i64 a0_17, .int .i64 0, .int .i64 0, .int .i64 a0_20] 24 (0, 0)) (by (with_reducible repeat (first | refine blk_drewN ?_ _ | refine blk_drew ?_ | refine blk_alloc ?_ _)); refine blk_put (cs := #[.int .i64 a0_0, .int .i64 a0_1, .int .i64 a0_2, .int .i64 a0_3, .slice A0_4 l0_4.length c0_4, .int .i64 a0_5, .int .i64 a0_6, .int .i64 a0_7, .int .i64 a0_8, .int .i64 a0_9, .int .i64 a0_10, .int .i64 a0_11, .int .i64 a0_12, .int .i64 a0_13, .int .i64 a0_14, .int .i64 a0_15, .int .i64 a0_16, .int .i64 a0_17, .int .i64 0, .int .i64 a0_19, .int .i64 a0_20]) ?_ 19 _ rfl; (with_reducible repeat (first | refine blk_drewN ?_ _ | refine blk_drew ?_ | refine blk_alloc ?_ _)); refine blk_put (cs := #[.int .i64 a0_0, .int .i64 a0_1, .int .i64 a0_2, .int .i64 a0_3, .slice A0_4 l0_4.length c0_4, .int .i64 a0_5, .int .i64 a0_6, .int .i64 a0_7, .int .i64 a0_8, .int .i64 a0_9, .int .i64 a0_10, .int .i64 a0_11, .int .i64 a0_12, .int .i64 a0_13, .int .i64 a0_14, .int .i64 a0_15, .int .i64 a0_16, .int .i64 a0_17, .int .i64 a0_18, .int .i64 a0_19, .int .i64 a0_20]) ?_ 18 _ rfl; (with_reducible repeat (first | refine blk_drewN ?_ _ | refine blk_drew ?_ | refine blk_alloc ?_ _)); exact BK220.out) hb); have n1_ := Aside0.mk (blk_below (g := gb221) (o := .cells #[.int .i64 a3_0, .int .i64 a3_1, .int .i64 a3_2] 26 (0, 0)) (by (with_reducible repeat (first | refine blk_drewN ?_ _ | refine blk_drew ?_ | refine blk_alloc ?_ _)); refine blk_far ?_ NB221_220.out _; (with_reducible repeat (first | refine blk_drewN ?_ _ | refine blk_drew ?_ | refine blk_alloc ?_ _)); refine blk_far ?_ NB221_220.out _; (with_reducible repeat (first | refine blk_drewN ?_ _ | refine blk_drew ?_ | refine blk_alloc ?_ _)); exact BK221.out) hb); have n2_ := Aside0.mk (blk_below (g := gb222) (o := .cells #[.int .i64 a4_0, .int .i64 a4_1, .int .i64 a4_2] 26 (0, 0)) (by (with_reducible repeat (first | refine blk_drewN ?_ _ | refine blk_drew ?_ | refine blk_alloc ?_ _)); refine blk_far ?_ NB222_220.out _; (with_reducible repeat (first | refine blk_drewN ?_ _ | refine blk_drew ?_ | refine blk_alloc ?_ _)); refine blk_far ?_ NB222_220.out _; (with_reducible repeat (first | refine blk_drewN ?_ _ | refine blk_drew ?_ | refine blk_alloc ?_ _)); exact BK222.out) hb); have n3_ := Aside0.mk (below_step (by repeat (first | (with_reducible first | exact HB.out | apply below_alloc | apply pw_below_drewN | apply below_drew1 | refine below_set ?_ GE220.out | refine below_set ?_ GE221.out | refine below_set ?_ GE222.out) | exact HB.out)) hb); clear BK220; clear BK221; clear BK222; clear HB; have BK220 := n0_; have BK221 := n1_; have BK222 := n2_; have HB := n3_; clear n0_ n1_ n2_ n3_; (try clear hb); (try clear hb2); (try clear hk); (try clear hi)))
   go_meet
   case rel => exact ⟨_, (!t224), (by first | rfl | (simp; done) | (simp [*]; done)), H', ⟨by first | omega | exact Nat.le_refl _⟩, ⟨by (with_reducible repeat (first | refine blk_drewN ?_ _ | refine blk_drew ?_ | refine blk_alloc ?_ _)); exact BK220.out⟩, ⟨by (with_reducible repeat (first | refine blk_drewN ?_ _ | refine blk_drew ?_ | refine blk_alloc ?_ _)); exact BK221.out⟩, ⟨by (with_reducible repeat (first | refine blk_drewN ?_ _ | refine blk_drew ?_ | refine blk_alloc ?_ _)); exact BK222.out⟩, ⟨by repeat (first | (with_reducible first | exact HB.out | apply below_alloc | apply pw_below_drewN | apply below_drew1 | refine below_set ?_ GE220.out | refine below_set ?_ GE221.out | refine below_set ?_ GE222.out) | exact HB.out)⟩⟩
 case rest => as_aux_lemma =>
  clear HC8
  try clear c1
  try clear c2
  try clear p2
  try clear c4
  try clear c8
  try clear c13
  try clear c14
  try clear c16
  try clear c16b0
  try clear c16b1
  try clear c17
  try clear c18
  try clear c21
  try clear c22
  try clear hcz15_0
  try clear hcz15_1
  try clear hcz15_10
  try clear hcz15_11
  try clear hcz15_12
  try clear hcz15_13
  try clear hcz15_14
  try clear hcz15_15
  try clear hcz15_16
  try clear hcz15_17
  try clear hcz15_18
  try clear hcz15_19
  try clear hcz15_2
  try clear hcz15_20
  try clear hcz15_3
  try clear hcz15_4
  try clear hcz15_5
  try clear hcz15_6
  try clear hcz15_7
  try clear hcz15_8
  try clear hcz15_9
  try clear hcz19_0
  try clear hcz19_1
  try clear hcz19_10
  try clear hcz19_11
  try clear hcz19_12
  try clear hcz19_13
  try clear hcz19_14
  try clear hcz19_15
  try clear hcz19_16
  try clear hcz19_17
  try clear hcz19_18
  try clear hcz19_19
  try clear hcz19_2
  try clear hcz19_20
  try clear hcz19_3
  try clear hcz19_4
  try clear hcz19_5
  try clear hcz19_6
  try clear hcz19_7
  try clear hcz19_8
  try clear hcz19_9
  try clear hcz23_0
  try clear hcz23_1
  try clear hcz23_10
  try clear hcz23_11
  try clear hcz23_12
  try clear hcz23_13
  try clear hcz23_14
  try clear hcz23_15
  try clear hcz23_16
  try clear hcz23_17
  try clear hcz23_18
  try clear hcz23_19
  try clear hcz23_2
  try clear hcz23_20
  try clear hcz23_3
  try clear hcz23_4
  try clear hcz23_5
  try clear hcz23_6
  try clear hcz23_7
  try clear hcz23_8
  try clear hcz23_9
  try clear hfz15_0
  try clear hfz15_1
  try clear hfz15_10
  try clear hfz15_11
  try clear hfz15_12
  try clear hfz15_13
  try clear hfz15_14
  try clear hfz15_15
  try clear hfz15_16
  try clear hfz15_17
  try clear hfz15_18
  try clear hfz15_19
  try clear hfz15_2
  try clear hfz15_20
  try clear hfz15_3
  try clear hfz15_4
  try clear hfz15_5
  try clear hfz15_6
  try clear hfz15_7
  try clear hfz15_8
  try clear hfz15_9
  try clear hfz19_0
  try clear hfz19_1
  try clear hfz19_10
  try clear hfz19_11
  try clear hfz19_12
  try clear hfz19_13
  try clear hfz19_14
  try clear hfz19_15
  try clear hfz19_16
  try clear hfz19_17
  try clear hfz19_18
  try clear hfz19_19
  try clear hfz19_2
  try clear hfz19_20
  try clear hfz19_3
  try clear hfz19_4
  try clear hfz19_5
  try clear hfz19_6
  try clear hfz19_7
  try clear hfz19_8
  try clear hfz19_9
  try clear hfz23_0
  try clear hfz23_1
  try clear hfz23_10
  try clear hfz23_11
  try clear hfz23_12
  try clear hfz23_13
  try clear hfz23_14
  try clear hfz23_15
  try clear hfz23_16
  try clear hfz23_17
  try clear hfz23_18
  try clear hfz23_19
  try clear hfz23_2
  try clear hfz23_20
  try clear hfz23_3
  try clear hfz23_4
  try clear hfz23_5
  try clear hfz23_6
  try clear hfz23_7
  try clear hfz23_8
  try clear hfz23_9
  obtain ⟨kq, x34_7, rfl, HA, HJ7, BK220, BK221, BK222, HB⟩ := hcut
  cases kq with
  | zero => exact absurd HA.out (by simp [compositorlaw21_DemPlain.j0])
  | succ kj7 =>
   have H := HA.out
   clear HA
   simp only [compositorlaw21_DemPlain.j0] at H
   by_cases c25 : x34_7 = true
   ·subst c25
    have H1 : (some t223) = some r := by rw [if_pos rfl] at H; exact H
    clear H
    have H := H1
    clear H1
    obtain rfl := Option.some.inj H
    go_wp2
    go_ret
    exact ⟨by first | rfl | (simp [errW_none, errW_some] <;> rfl) | (simp [*, errW_none, errW_some] <;> rfl), by repeat (first | (with_reducible first | exact HB.out | apply below_alloc | apply pw_below_drewN | apply below_drew1 | refine below_set ?_ GE220.out | refine below_set ?_ GE221.out | refine below_set ?_ GE222.out) | exact HB.out)⟩
   ·replace c25 := Bool.eq_false_iff.mpr c25
    subst c25
    have H1 : (if (Int.tmod (wrap64 (a2)) 6) = 2 then (compositorlaw21_DemPlain.j1 kj7 a5 t223 (Int.tmod (wrap64 (a1)) 10001) (Int.tmod (wrap64 (a2)) 6) 0 true a0_0 a0_1 a0_2 a0_3 l0_4 a0_5 a0_6 a0_7 a0_8 a0_9 a0_10 a0_11 a0_12 a0_13 a0_14 a0_15 a0_16 a0_17 0 0 a0_20 a3_0 a3_1 a3_2 a4_0 a4_1 a4_2) else (compositorlaw21_DemPlain.j1 kj7 a5 t223 (Int.tmod (wrap64 (a1)) 10001) (Int.tmod (wrap64 (a2)) 6) 0 ((Int.tmod (wrap64 (a2)) 6) == 3) a0_0 a0_1 a0_2 a0_3 l0_4 a0_5 a0_6 a0_7 a0_8 a0_9 a0_10 a0_11 a0_12 a0_13 a0_14 a0_15 a0_16 a0_17 0 0 a0_20 a3_0 a3_1 a3_2 a4_0 a4_1 a4_2)) = some r := by rw [if_neg (show ¬ (false = true) by decide)] at H; exact H
    clear H
    have H := H1
    clear H1
    have HC26 := Aside0.mk H
    clear H
    go_upto_region 9 with (fail)
    go_cut [47] (fun v47 wc => ∃ (kq : Nat) (x47_25 : Bool), v47 = .bool x47_25 ∧ Aside0 (compositorlaw21_DemPlain.j1 kq a5 t223 (Int.tmod (wrap64 (a1)) 10001) (Int.tmod (wrap64 (a2)) 6) 0 x47_25 a0_0 a0_1 a0_2 a0_3 l0_4 a0_5 a0_6 a0_7 a0_8 a0_9 a0_10 a0_11 a0_12 a0_13 a0_14 a0_15 a0_16 a0_17 0 0 a0_20 a3_0 a3_1 a3_2 a4_0 a4_1 a4_2 = some r) ∧ Aside0 (kq ≤ kj7) ∧ Aside0 (wc.heap[gb220]? = some (.cells #[.int .i64 a0_0, .int .i64 a0_1, .int .i64 a0_2, .int .i64 a0_3, (.slice A0_4 l0_4.length c0_4), .int .i64 a0_5, .int .i64 a0_6, .int .i64 a0_7, .int .i64 a0_8, .int .i64 a0_9, .int .i64 a0_10, .int .i64 a0_11, .int .i64 a0_12, .int .i64 a0_13, .int .i64 a0_14, .int .i64 a0_15, .int .i64 a0_16, .int .i64 a0_17, .int .i64 0, .int .i64 0, .int .i64 a0_20] 24 (0, 0))) ∧ Aside0 (wc.heap[gb221]? = some (.cells #[.int .i64 a3_0, .int .i64 a3_1, .int .i64 a3_2] 26 (0, 0))) ∧ Aside0 (wc.heap[gb222]? = some (.cells #[.int .i64 a4_0, .int .i64 a4_1, .int .i64 a4_2] 26 (0, 0))) ∧ Aside0 (Below w.heap.size w wc))
    case first => as_aux_lemma =>
     have H := HC26.out
     clear HC26
     by_cases c27 : (Int.tmod (wrap64 (a2)) 6) = 2
     ·rw [if_pos c27] at H
      have c27b0 : ((Int.tmod (wrap64 (a2)) 6) == 2) = true := beq_iff_eq.mpr c27
      have c27b1 : ((Int.tmod (wrap64 (a2)) 6) != 2) = false := bne_eq_false_iff_eq.mpr c27
      (try (have c27b2 : ((Int.tmod (IntKind.i64.wrap (a2)) 6) == 2) = true := by simp only [i64_w]; exact (beq_iff_eq.mpr c27)))
      (try (have c27b3 : ((Int.tmod (IntKind.i64.wrap (a2)) 6) != 2) = false := by simp only [i64_w]; exact (bne_eq_false_iff_eq.mpr c27)))
      clear c27
      (first | rw [c27b0] | (simp only [i64_w, i32_w]; rw [c27b0]) | skip)
      have H' := Aside0.mk H
      clear H
      go_wp2
      go_meet
      case rel => exact ⟨_, (true), (by first | rfl | (simp; done) | (simp [*]; done)), H', ⟨by have := HJ7.out; first | omega | exact Nat.le_refl _⟩, ⟨by (with_reducible repeat (first | refine blk_drewN ?_ _ | refine blk_drew ?_ | refine blk_alloc ?_ _)); exact BK220.out⟩, ⟨by (with_reducible repeat (first | refine blk_drewN ?_ _ | refine blk_drew ?_ | refine blk_alloc ?_ _)); exact BK221.out⟩, ⟨by (with_reducible repeat (first | refine blk_drewN ?_ _ | refine blk_drew ?_ | refine blk_alloc ?_ _)); exact BK222.out⟩, ⟨by repeat (first | (with_reducible first | exact HB.out | apply below_alloc | apply pw_below_drewN | apply below_drew1 | refine below_set ?_ GE220.out | refine below_set ?_ GE221.out | refine below_set ?_ GE222.out) | exact HB.out)⟩⟩
     ·rw [if_neg c27] at H
      have c27b0 : ((Int.tmod (wrap64 (a2)) 6) == 2) = false := beq_eq_false_iff_ne.mpr c27
      have c27b1 : ((Int.tmod (wrap64 (a2)) 6) != 2) = true := bne_iff_ne.mpr c27
      (try (have c27b2 : ((Int.tmod (IntKind.i64.wrap (a2)) 6) == 2) = false := by simp only [i64_w]; exact (beq_eq_false_iff_ne.mpr c27)))
      (try (have c27b3 : ((Int.tmod (IntKind.i64.wrap (a2)) 6) != 2) = true := by simp only [i64_w]; exact (bne_iff_ne.mpr c27)))
      (first | rw [c27b0] | (simp only [i64_w, i32_w]; rw [c27b0]) | skip)
      have H' := Aside0.mk H
      clear H
      go_wp2
      go_meet
      case rel => exact ⟨_, (((Int.tmod (wrap64 (a2)) 6) == 3)), (by first | rfl | (simp; done) | (simp [*]; done)), H', ⟨by have := HJ7.out; first | omega | exact Nat.le_refl _⟩, ⟨by (with_reducible repeat (first | refine blk_drewN ?_ _ | refine blk_drew ?_ | refine blk_alloc ?_ _)); exact BK220.out⟩, ⟨by (with_reducible repeat (first | refine blk_drewN ?_ _ | refine blk_drew ?_ | refine blk_alloc ?_ _)); exact BK221.out⟩, ⟨by (with_reducible repeat (first | refine blk_drewN ?_ _ | refine blk_drew ?_ | refine blk_alloc ?_ _)); exact BK222.out⟩, ⟨by repeat (first | (with_reducible first | exact HB.out | apply below_alloc | apply pw_below_drewN | apply below_drew1 | refine below_set ?_ GE220.out | refine below_set ?_ GE221.out | refine below_set ?_ GE222.out) | exact HB.out)⟩⟩
    case rest => as_aux_lemma =>
     clear HC26
     try clear c1
     try clear c2
     try clear p2
     try clear c4
     try clear p6
     try clear c8
     try clear c13
     try clear c14
     try clear c16
     try clear c16b0
     try clear c16b1
     try clear c17
     try clear c18
     try clear c21
     try clear c22
     try clear c25
     try clear c27
     try clear c27b0
     try clear c27b1
     try clear c27b2
     try clear hcz15_0
     try clear hcz15_1
     try clear hcz15_10
     try clear hcz15_11
     try clear hcz15_12
     try clear hcz15_13
     try clear hcz15_14
     try clear hcz15_15
     try clear hcz15_16
     try clear hcz15_17
     try clear hcz15_18
     try clear hcz15_19
     try clear hcz15_2
     try clear hcz15_20
     try clear hcz15_3
     try clear hcz15_4
     try clear hcz15_5
     try clear hcz15_6
     try clear hcz15_7
     try clear hcz15_8
     try clear hcz15_9
     try clear hcz19_0
     try clear hcz19_1
     try clear hcz19_10
     try clear hcz19_11
     try clear hcz19_12
     try clear hcz19_13
     try clear hcz19_14
     try clear hcz19_15
     try clear hcz19_16
     try clear hcz19_17
     try clear hcz19_18
     try clear hcz19_19
     try clear hcz19_2
     try clear hcz19_20
     try clear hcz19_3
     try clear hcz19_4
     try clear hcz19_5
     try clear hcz19_6
     try clear hcz19_7
     try clear hcz19_8
     try clear hcz19_9
     try clear hcz23_0
     try clear hcz23_1
     try clear hcz23_10
     try clear hcz23_11
     try clear hcz23_12
     try clear hcz23_13
     try clear hcz23_14
     try clear hcz23_15
     try clear hcz23_16
     try clear hcz23_17
     try clear hcz23_18
     try clear hcz23_19
     try clear hcz23_2
     try clear hcz23_20
     try clear hcz23_3
     try clear hcz23_4
     try clear hcz23_5
     try clear hcz23_6
     try clear hcz23_7
     try clear hcz23_8
     try clear hcz23_9
     try clear hfz15_0
     try clear hfz15_1
     try clear hfz15_10
     try clear hfz15_11
     try clear hfz15_12
     try clear hfz15_13
     try clear hfz15_14
     try clear hfz15_15
     try clear hfz15_16
     try clear hfz15_17
     try clear hfz15_18
     try clear hfz15_19
     try clear hfz15_2
     try clear hfz15_20
     try clear hfz15_3
     try clear hfz15_4
     try clear hfz15_5
     try clear hfz15_6
     try clear hfz15_7
     try clear hfz15_8
     try clear hfz15_9
     try clear hfz19_0
     try clear hfz19_1
     try clear hfz19_10
     try clear hfz19_11
     try clear hfz19_12
     try clear hfz19_13
     try clear hfz19_14
     try clear hfz19_15
     try clear hfz19_16
     try clear hfz19_17
     try clear hfz19_18
     try clear hfz19_19
     try clear hfz19_2
     try clear hfz19_20
     try clear hfz19_3
     try clear hfz19_4
     try clear hfz19_5
     try clear hfz19_6
     try clear hfz19_7
     try clear hfz19_8
     try clear hfz19_9
     try clear hfz23_0
     try clear hfz23_1
     try clear hfz23_10
     try clear hfz23_11
     try clear hfz23_12
     try clear hfz23_13
     try clear hfz23_14
     try clear hfz23_15
     try clear hfz23_16
     try clear hfz23_17
     try clear hfz23_18
     try clear hfz23_19
     try clear hfz23_2
     try clear hfz23_20
     try clear hfz23_3
     try clear hfz23_4
     try clear hfz23_5
     try clear hfz23_6
     try clear hfz23_7
     try clear hfz23_8
     try clear hfz23_9
     try clear p2
     obtain ⟨kq, x47_25, rfl, HA, HJ25, BK220, BK221, BK222, HB⟩ := hcut
     cases kq with
     | zero => exact absurd HA.out (by simp [compositorlaw21_DemPlain.j1])
     | succ kj25 =>
      have H := HA.out
      clear HA
      simp only [compositorlaw21_DemPlain.j1] at H
      have HC28 := Aside0.mk H
      clear H
      go_upto_if 47 with (fail)
      go_cut [16] (fun v16 wc => ∃ (kq : Nat) (x16_27 : Int), v16 = .int .i64 x16_27 ∧ Aside0 (compositorlaw21_DemPlain.j2 kq a5 t223 (Int.tmod (wrap64 (a1)) 10001) (Int.tmod (wrap64 (a2)) 6) x16_27 a0_0 a0_1 a0_2 a0_3 l0_4 a0_5 a0_6 a0_7 a0_8 a0_9 a0_10 a0_11 a0_12 a0_13 a0_14 a0_15 a0_16 a0_17 0 0 a0_20 a3_0 a3_1 a3_2 a4_0 a4_1 a4_2 = some r) ∧ Aside0 (kq ≤ kj25) ∧ Aside0 (wc.heap[gb220]? = some (.cells #[.int .i64 a0_0, .int .i64 a0_1, .int .i64 a0_2, .int .i64 a0_3, (.slice A0_4 l0_4.length c0_4), .int .i64 a0_5, .int .i64 a0_6, .int .i64 a0_7, .int .i64 a0_8, .int .i64 a0_9, .int .i64 a0_10, .int .i64 a0_11, .int .i64 a0_12, .int .i64 a0_13, .int .i64 a0_14, .int .i64 a0_15, .int .i64 a0_16, .int .i64 a0_17, .int .i64 0, .int .i64 0, .int .i64 a0_20] 24 (0, 0))) ∧ Aside0 (wc.heap[gb221]? = some (.cells #[.int .i64 a3_0, .int .i64 a3_1, .int .i64 a3_2] 26 (0, 0))) ∧ Aside0 (wc.heap[gb222]? = some (.cells #[.int .i64 a4_0, .int .i64 a4_1, .int .i64 a4_2] 26 (0, 0))) ∧ Aside0 (Below w.heap.size w wc))
      case first => as_aux_lemma =>
       have H := HC28.out
       clear HC28
       by_cases c29 : x47_25 = true
       ·subst c29
        have H1 : (compositorlaw21_DemPlain.j2 kj25 a5 t223 (Int.tmod (wrap64 (a1)) 10001) (Int.tmod (wrap64 (a2)) 6) a0_13 a0_0 a0_1 a0_2 a0_3 l0_4 a0_5 a0_6 a0_7 a0_8 a0_9 a0_10 a0_11 a0_12 a0_13 a0_14 a0_15 a0_16 a0_17 0 0 a0_20 a3_0 a3_1 a3_2 a4_0 a4_1 a4_2) = some r := by rw [if_pos rfl] at H; exact H
        clear H
        have H := H1
        clear H1
        have H' := Aside0.mk H
        clear H
        have hnb30 := NB220_221.out
        have hnc30 := NB221_220.out
        have hnb31 := NB220_222.out
        have hnc31 := NB222_220.out
        have hcz32_0 := blk_cell BK220.out
        have hfz32_0 := blk_frozen BK220.out
        go_wp2
        go_meet
        case rel => exact ⟨_, (a0_13), (by first | rfl | (simp; done) | (simp [*]; done)), H', ⟨by have := HJ7.out; have := HJ25.out; first | omega | exact Nat.le_refl _⟩, ⟨by (with_reducible repeat (first | refine blk_drewN ?_ _ | refine blk_drew ?_ | refine blk_alloc ?_ _)); exact BK220.out⟩, ⟨by (with_reducible repeat (first | refine blk_drewN ?_ _ | refine blk_drew ?_ | refine blk_alloc ?_ _)); exact BK221.out⟩, ⟨by (with_reducible repeat (first | refine blk_drewN ?_ _ | refine blk_drew ?_ | refine blk_alloc ?_ _)); exact BK222.out⟩, ⟨by repeat (first | (with_reducible first | exact HB.out | apply below_alloc | apply pw_below_drewN | apply below_drew1 | refine below_set ?_ GE220.out | refine below_set ?_ GE221.out | refine below_set ?_ GE222.out) | exact HB.out)⟩⟩
       ·replace c29 := Bool.eq_false_iff.mpr c29
        subst c29
        have H1 : (compositorlaw21_DemPlain.j2 kj25 a5 t223 (Int.tmod (wrap64 (a1)) 10001) (Int.tmod (wrap64 (a2)) 6) 0 a0_0 a0_1 a0_2 a0_3 l0_4 a0_5 a0_6 a0_7 a0_8 a0_9 a0_10 a0_11 a0_12 a0_13 a0_14 a0_15 a0_16 a0_17 0 0 a0_20 a3_0 a3_1 a3_2 a4_0 a4_1 a4_2) = some r := by rw [if_neg (show ¬ (false = true) by decide)] at H; exact H
        clear H
        have H := H1
        clear H1
        have H' := Aside0.mk H
        clear H
        go_wp2
        go_meet
        case rel => exact ⟨_, (0), (by first | rfl | (simp; done) | (simp [*]; done)), H', ⟨by have := HJ7.out; have := HJ25.out; first | omega | exact Nat.le_refl _⟩, ⟨by (with_reducible repeat (first | refine blk_drewN ?_ _ | refine blk_drew ?_ | refine blk_alloc ?_ _)); exact BK220.out⟩, ⟨by (with_reducible repeat (first | refine blk_drewN ?_ _ | refine blk_drew ?_ | refine blk_alloc ?_ _)); exact BK221.out⟩, ⟨by (with_reducible repeat (first | refine blk_drewN ?_ _ | refine blk_drew ?_ | refine blk_alloc ?_ _)); exact BK222.out⟩, ⟨by repeat (first | (with_reducible first | exact HB.out | apply below_alloc | apply pw_below_drewN | apply below_drew1 | refine below_set ?_ GE220.out | refine below_set ?_ GE221.out | refine below_set ?_ GE222.out) | exact HB.out)⟩⟩
      case rest => as_aux_lemma =>
       clear HC28
       try clear c1
       try clear c2
       try clear p2
       try clear c3
       try clear c4
       try clear p6
       try clear c8
       try clear c13
       try clear c14
       try clear c16
       try clear c16b0
       try clear c16b1
       try clear c17
       try clear c18
       try clear c21
       try clear c22
       try clear c25
       try clear c27
       try clear c27b0
       try clear c27b1
       try clear c27b2
       try clear c29
       try clear c30
       try clear c31
       try clear hcz15_0
       try clear hcz15_1
       try clear hcz15_10
       try clear hcz15_11
       try clear hcz15_12
       try clear hcz15_13
       try clear hcz15_14
       try clear hcz15_15
       try clear hcz15_16
       try clear hcz15_17
       try clear hcz15_18
       try clear hcz15_19
       try clear hcz15_2
       try clear hcz15_20
       try clear hcz15_3
       try clear hcz15_4
       try clear hcz15_5
       try clear hcz15_6
       try clear hcz15_7
       try clear hcz15_8
       try clear hcz15_9
       try clear hcz19_0
       try clear hcz19_1
       try clear hcz19_10
       try clear hcz19_11
       try clear hcz19_12
       try clear hcz19_13
       try clear hcz19_14
       try clear hcz19_15
       try clear hcz19_16
       try clear hcz19_17
       try clear hcz19_18
       try clear hcz19_19
       try clear hcz19_2
       try clear hcz19_20
       try clear hcz19_3
       try clear hcz19_4
       try clear hcz19_5
       try clear hcz19_6
       try clear hcz19_7
       try clear hcz19_8
       try clear hcz19_9
       try clear hcz23_0
       try clear hcz23_1
       try clear hcz23_10
       try clear hcz23_11
       try clear hcz23_12
       try clear hcz23_13
       try clear hcz23_14
       try clear hcz23_15
       try clear hcz23_16
       try clear hcz23_17
       try clear hcz23_18
       try clear hcz23_19
       try clear hcz23_2
       try clear hcz23_20
       try clear hcz23_3
       try clear hcz23_4
       try clear hcz23_5
       try clear hcz23_6
       try clear hcz23_7
       try clear hcz23_8
       try clear hcz23_9
       try clear hcz32_0
       try clear hcz32_1
       try clear hcz32_10
       try clear hcz32_11
       try clear hcz32_12
       try clear hcz32_13
       try clear hcz32_14
       try clear hcz32_15
       try clear hcz32_16
       try clear hcz32_17
       try clear hcz32_18
       try clear hcz32_19
       try clear hcz32_2
       try clear hcz32_20
       try clear hcz32_3
       try clear hcz32_4
       try clear hcz32_5
       try clear hcz32_6
       try clear hcz32_7
       try clear hcz32_8
       try clear hcz32_9
       try clear hfz15_0
       try clear hfz15_1
       try clear hfz15_10
       try clear hfz15_11
       try clear hfz15_12
       try clear hfz15_13
       try clear hfz15_14
       try clear hfz15_15
       try clear hfz15_16
       try clear hfz15_17
       try clear hfz15_18
       try clear hfz15_19
       try clear hfz15_2
       try clear hfz15_20
       try clear hfz15_3
       try clear hfz15_4
       try clear hfz15_5
       try clear hfz15_6
       try clear hfz15_7
       try clear hfz15_8
       try clear hfz15_9
       try clear hfz19_0
       try clear hfz19_1
       try clear hfz19_10
       try clear hfz19_11
       try clear hfz19_12
       try clear hfz19_13
       try clear hfz19_14
       try clear hfz19_15
       try clear hfz19_16
       try clear hfz19_17
       try clear hfz19_18
       try clear hfz19_19
       try clear hfz19_2
       try clear hfz19_20
       try clear hfz19_3
       try clear hfz19_4
       try clear hfz19_5
       try clear hfz19_6
       try clear hfz19_7
       try clear hfz19_8
       try clear hfz19_9
       try clear hfz23_0
       try clear hfz23_1
       try clear hfz23_10
       try clear hfz23_11
       try clear hfz23_12
       try clear hfz23_13
       try clear hfz23_14
       try clear hfz23_15
       try clear hfz23_16
       try clear hfz23_17
       try clear hfz23_18
       try clear hfz23_19
       try clear hfz23_2
       try clear hfz23_20
       try clear hfz23_3
       try clear hfz23_4
       try clear hfz23_5
       try clear hfz23_6
       try clear hfz23_7
       try clear hfz23_8
       try clear hfz23_9
       try clear hfz32_0
       try clear hfz32_1
       try clear hfz32_10
       try clear hfz32_11
       try clear hfz32_12
       try clear hfz32_13
       try clear hfz32_14
       try clear hfz32_15
       try clear hfz32_16
       try clear hfz32_17
       try clear hfz32_18
       try clear hfz32_19
       try clear hfz32_2
       try clear hfz32_20
       try clear hfz32_3
       try clear hfz32_4
       try clear hfz32_5
       try clear hfz32_6
       try clear hfz32_7
       try clear hfz32_8
       try clear hfz32_9
       try clear p2
       try clear p6
       obtain ⟨kq, x16_27, rfl, HA, HJ27, BK220, BK221, BK222, HB⟩ := hcut
       cases kq with
       | zero => exact absurd HA.out (by simp [compositorlaw21_DemPlain.j2])
       | succ kj27 =>
        have H := HA.out
        clear HA
        simp only [compositorlaw21_DemPlain.j2] at H
        have HC33 := Aside0.mk H
        clear H
        go_upto_if 51 with (fail)
        go_cut [16] (fun v16 wc => ∃ (kq : Nat) (x16_32 : Int), v16 = .int .i64 x16_32 ∧ Aside0 (compositorlaw21_DemPlain.j3 kq a5 t223 (Int.tmod (wrap64 (a1)) 10001) (Int.tmod (wrap64 (a2)) 6) x16_32 a0_0 a0_1 a0_2 a0_3 l0_4 a0_5 a0_6 a0_7 a0_8 a0_9 a0_10 a0_11 a0_12 a0_13 a0_14 a0_15 a0_16 a0_17 0 0 a0_20 a3_0 a3_1 a3_2 a4_0 a4_1 a4_2 = some r) ∧ Aside0 (kq ≤ kj27) ∧ Aside0 (wc.heap[gb220]? = some (.cells #[.int .i64 a0_0, .int .i64 a0_1, .int .i64 a0_2, .int .i64 a0_3, (.slice A0_4 l0_4.length c0_4), .int .i64 a0_5, .int .i64 a0_6, .int .i64 a0_7, .int .i64 a0_8, .int .i64 a0_9, .int .i64 a0_10, .int .i64 a0_11, .int .i64 a0_12, .int .i64 a0_13, .int .i64 a0_14, .int .i64 a0_15, .int .i64 a0_16, .int .i64 a0_17, .int .i64 0, .int .i64 0, .int .i64 a0_20] 24 (0, 0))) ∧ Aside0 (wc.heap[gb221]? = some (.cells #[.int .i64 a3_0, .int .i64 a3_1, .int .i64 a3_2] 26 (0, 0))) ∧ Aside0 (wc.heap[gb222]? = some (.cells #[.int .i64 a4_0, .int .i64 a4_1, .int .i64 a4_2] 26 (0, 0))) ∧ Aside0 (Below w.heap.size w wc))
        case first => as_aux_lemma =>
         have H := HC33.out
         clear HC33
         by_cases c34 : (Int.tmod (wrap64 (a2)) 6) = 4
         ·rw [if_pos c34] at H
          have c34b0 : ((Int.tmod (wrap64 (a2)) 6) == 4) = true := beq_iff_eq.mpr c34
          have c34b1 : ((Int.tmod (wrap64 (a2)) 6) != 4) = false := bne_eq_false_iff_eq.mpr c34
          (try (have c34b2 : ((Int.tmod (IntKind.i64.wrap (a2)) 6) == 4) = true := by simp only [i64_w]; exact (beq_iff_eq.mpr c34)))
          (try (have c34b3 : ((Int.tmod (IntKind.i64.wrap (a2)) 6) != 4) = false := by simp only [i64_w]; exact (bne_eq_false_iff_eq.mpr c34)))
          clear c34
          (first | rw [c34b0] | (simp only [i64_w, i32_w]; rw [c34b0]) | skip)
          have H' := Aside0.mk H
          clear H
          have hnb35 := NB220_221.out
          have hnc35 := NB221_220.out
          have hnb36 := NB220_222.out
          have hnc36 := NB222_220.out
          have hcz37_0 := blk_cell BK220.out
          have hfz37_0 := blk_frozen BK220.out
          go_wp2
          go_meet
          case rel => exact ⟨_, (a0_14), (by first | rfl | (simp; done) | (simp [*]; done)), H', ⟨by have := HJ7.out; have := HJ25.out; have := HJ27.out; first | omega | exact Nat.le_refl _⟩, ⟨by (with_reducible repeat (first | refine blk_drewN ?_ _ | refine blk_drew ?_ | refine blk_alloc ?_ _)); exact BK220.out⟩, ⟨by (with_reducible repeat (first | refine blk_drewN ?_ _ | refine blk_drew ?_ | refine blk_alloc ?_ _)); exact BK221.out⟩, ⟨by (with_reducible repeat (first | refine blk_drewN ?_ _ | refine blk_drew ?_ | refine blk_alloc ?_ _)); exact BK222.out⟩, ⟨by repeat (first | (with_reducible first | exact HB.out | apply below_alloc | apply pw_below_drewN | apply below_drew1 | refine below_set ?_ GE220.out | refine below_set ?_ GE221.out | refine below_set ?_ GE222.out) | exact HB.out)⟩⟩
         ·rw [if_neg c34] at H
          have c34b0 : ((Int.tmod (wrap64 (a2)) 6) == 4) = false := beq_eq_false_iff_ne.mpr c34
          have c34b1 : ((Int.tmod (wrap64 (a2)) 6) != 4) = true := bne_iff_ne.mpr c34
          (try (have c34b2 : ((Int.tmod (IntKind.i64.wrap (a2)) 6) == 4) = false := by simp only [i64_w]; exact (beq_eq_false_iff_ne.mpr c34)))
          (try (have c34b3 : ((Int.tmod (IntKind.i64.wrap (a2)) 6) != 4) = true := by simp only [i64_w]; exact (bne_iff_ne.mpr c34)))
          (first | rw [c34b0] | (simp only [i64_w, i32_w]; rw [c34b0]) | skip)
          have H' := Aside0.mk H
          clear H
          go_wp2
          go_meet
          case rel => exact ⟨_, (x16_27), (by first | rfl | (simp; done) | (simp [*]; done)), H', ⟨by have := HJ7.out; have := HJ25.out; have := HJ27.out; first | omega | exact Nat.le_refl _⟩, ⟨by (with_reducible repeat (first | refine blk_drewN ?_ _ | refine blk_drew ?_ | refine blk_alloc ?_ _)); exact BK220.out⟩, ⟨by (with_reducible repeat (first | refine blk_drewN ?_ _ | refine blk_drew ?_ | refine blk_alloc ?_ _)); exact BK221.out⟩, ⟨by (with_reducible repeat (first | refine blk_drewN ?_ _ | refine blk_drew ?_ | refine blk_alloc ?_ _)); exact BK222.out⟩, ⟨by repeat (first | (with_reducible first | exact HB.out | apply below_alloc | apply pw_below_drewN | apply below_drew1 | refine below_set ?_ GE220.out | refine below_set ?_ GE221.out | refine below_set ?_ GE222.out) | exact HB.out)⟩⟩
        case rest => as_aux_lemma =>
         clear HC33
         try clear c1
         try clear c2
         try clear p2
         try clear c3
         try clear c4
         try clear p6
         try clear c8
         try clear c13
         try clear c14
         try clear c16
         try clear c16b0
         try clear c16b1
         try clear c17
         try clear c18
         try clear c21
         try clear c22
         try clear c25
         try clear c27
         try clear c27b0
         try clear c27b1
         try clear c27b2
         try clear c29
         try clear c30
         try clear c31
         try clear c34
         try clear c34b0
         try clear c34b1
         try clear c34b2
         try clear c35
         try clear c36
         try clear hcz15_0
         try clear hcz15_1
         try clear hcz15_10
         try clear hcz15_11
         try clear hcz15_12
         try clear hcz15_13
         try clear hcz15_14
         try clear hcz15_15
         try clear hcz15_16
         try clear hcz15_17
         try clear hcz15_18
         try clear hcz15_19
         try clear hcz15_2
         try clear hcz15_20
         try clear hcz15_3
         try clear hcz15_4
         try clear hcz15_5
         try clear hcz15_6
         try clear hcz15_7
         try clear hcz15_8
         try clear hcz15_9
         try clear hcz19_0
         try clear hcz19_1
         try clear hcz19_10
         try clear hcz19_11
         try clear hcz19_12
         try clear hcz19_13
         try clear hcz19_14
         try clear hcz19_15
         try clear hcz19_16
         try clear hcz19_17
         try clear hcz19_18
         try clear hcz19_19
         try clear hcz19_2
         try clear hcz19_20
         try clear hcz19_3
         try clear hcz19_4
         try clear hcz19_5
         try clear hcz19_6
         try clear hcz19_7
         try clear hcz19_8
         try clear hcz19_9
         try clear hcz23_0
         try clear hcz23_1
         try clear hcz23_10
         try clear hcz23_11
         try clear hcz23_12
         try clear hcz23_13
         try clear hcz23_14
         try clear hcz23_15
         try clear hcz23_16
         try clear hcz23_17
         try clear hcz23_18
         try clear hcz23_19
         try clear hcz23_2
         try clear hcz23_20
         try clear hcz23_3
         try clear hcz23_4
         try clear hcz23_5
         try clear hcz23_6
         try clear hcz23_7
         try clear hcz23_8
         try clear hcz23_9
         try clear hcz32_0
         try clear hcz32_1
         try clear hcz32_10
         try clear hcz32_11
         try clear hcz32_12
         try clear hcz32_13
         try clear hcz32_14
         try clear hcz32_15
         try clear hcz32_16
         try clear hcz32_17
         try clear hcz32_18
         try clear hcz32_19
         try clear hcz32_2
         try clear hcz32_20
         try clear hcz32_3
         try clear hcz32_4
         try clear hcz32_5
         try clear hcz32_6
         try clear hcz32_7
         try clear hcz32_8
         try clear hcz32_9
         try clear hcz37_0
         try clear hcz37_1
         try clear hcz37_10
         try clear hcz37_11
         try clear hcz37_12
         try clear hcz37_13
         try clear hcz37_14
         try clear hcz37_15
         try clear hcz37_16
         try clear hcz37_17
         try clear hcz37_18
         try clear hcz37_19
         try clear hcz37_2
         try clear hcz37_20
         try clear hcz37_3
         try clear hcz37_4
         try clear hcz37_5
         try clear hcz37_6
         try clear hcz37_7
         try clear hcz37_8
         try clear hcz37_9
         try clear hfz15_0
         try clear hfz15_1
         try clear hfz15_10
         try clear hfz15_11
         try clear hfz15_12
         try clear hfz15_13
         try clear hfz15_14
         try clear hfz15_15
         try clear hfz15_16
         try clear hfz15_17
         try clear hfz15_18
         try clear hfz15_19
         try clear hfz15_2
         try clear hfz15_20
         try clear hfz15_3
         try clear hfz15_4
         try clear hfz15_5
         try clear hfz15_6
         try clear hfz15_7
         try clear hfz15_8
         try clear hfz15_9
         try clear hfz19_0
         try clear hfz19_1
         try clear hfz19_10
         try clear hfz19_11
         try clear hfz19_12
         try clear hfz19_13
         try clear hfz19_14
         try clear hfz19_15
         try clear hfz19_16
         try clear hfz19_17
         try clear hfz19_18
         try clear hfz19_19
         try clear hfz19_2
         try clear hfz19_20
         try clear hfz19_3
         try clear hfz19_4
         try clear hfz19_5
         try clear hfz19_6
         try clear hfz19_7
         try clear hfz19_8
         try clear hfz19_9
         try clear hfz23_0
         try clear hfz23_1
         try clear hfz23_10
         try clear hfz23_11
         try clear hfz23_12
         try clear hfz23_13
         try clear hfz23_14
         try clear hfz23_15
         try clear hfz23_16
         try clear hfz23_17
         try clear hfz23_18
         try clear hfz23_19
         try clear hfz23_2
         try clear hfz23_20
         try clear hfz23_3
         try clear hfz23_4
         try clear hfz23_5
         try clear hfz23_6
         try clear hfz23_7
         try clear hfz23_8
         try clear hfz23_9
         try clear hfz32_0
         try clear hfz32_1
         try clear hfz32_10
         try clear hfz32_11
         try clear hfz32_12
         try clear hfz32_13
         try clear hfz32_14
         try clear hfz32_15
         try clear hfz32_16
         try clear hfz32_17
         try clear hfz32_18
         try clear hfz32_19
         try clear hfz32_2
         try clear hfz32_20
         try clear hfz32_3
         try clear hfz32_4
         try clear hfz32_5
         try clear hfz32_6
         try clear hfz32_7
         try clear hfz32_8
         try clear hfz32_9
         try clear hfz37_0
         try clear hfz37_1
         try clear hfz37_10
         try clear hfz37_11
         try clear hfz37_12
         try clear hfz37_13
         try clear hfz37_14
         try clear hfz37_15
         try clear hfz37_16
         try clear hfz37_17
         try clear hfz37_18
         try clear hfz37_19
         try clear hfz37_2
         try clear hfz37_20
         try clear hfz37_3
         try clear hfz37_4
         try clear hfz37_5
         try clear hfz37_6
         try clear hfz37_7
         try clear hfz37_8
         try clear hfz37_9
         try clear p2
         try clear p6
         obtain ⟨kq, x16_32, rfl, HA, HJ32, BK220, BK221, BK222, HB⟩ := hcut
         cases kq with
         | zero => exact absurd HA.out (by simp [compositorlaw21_DemPlain.j3])
         | succ kj32 =>
          have H := HA.out
          clear HA
          simp only [compositorlaw21_DemPlain.j3] at H
          replace H := Option.bind_eq_some_iff.mp H
          obtain ⟨t225, A380, H⟩ := H
          replace H : (if x16_32 ≥ 0 then (if (wrap64 (t225 - (wrap64 ((wrap64 (a0_12 + (Int.tmod (wrap64 (a1)) 10001))) * (wrap64 (a0_12 + (Int.tmod (wrap64 (a1)) 10001))))))) = (wrap64 (x16_32 * x16_32)) then (compositorlaw21_DemPlain.j4 kj32 a5 t223 true a0_0 a0_1 a0_2 a0_3 l0_4 a0_5 a0_6 a0_7 a0_8 a0_9 a0_10 a0_11 a0_12 a0_13 a0_14 a0_15 a0_16 a0_17 0 0 a0_20 a3_0 a3_1 a3_2 a4_0 a4_1 a4_2) else (if x16_32 < 0 then (compositorlaw21_DemPlain.j4 kj32 a5 t223 ((wrap64 (t225 - (wrap64 ((wrap64 (a0_12 + (Int.tmod (wrap64 (a1)) 10001))) * (wrap64 (a0_12 + (Int.tmod (wrap64 (a1)) 10001))))))) == (wrap64 ((wrap64 (-x16_32)) * x16_32))) a0_0 a0_1 a0_2 a0_3 l0_4 a0_5 a0_6 a0_7 a0_8 a0_9 a0_10 a0_11 a0_12 a0_13 a0_14 a0_15 a0_16 a0_17 0 0 a0_20 a3_0 a3_1 a3_2 a4_0 a4_1 a4_2) else (compositorlaw21_DemPlain.j4 kj32 a5 t223 false a0_0 a0_1 a0_2 a0_3 l0_4 a0_5 a0_6 a0_7 a0_8 a0_9 a0_10 a0_11 a0_12 a0_13 a0_14 a0_15 a0_16 a0_17 0 0 a0_20 a3_0 a3_1 a3_2 a4_0 a4_1 a4_2))) else (if x16_32 < 0 then (compositorlaw21_DemPlain.j4 kj32 a5 t223 ((wrap64 (t225 - (wrap64 ((wrap64 (a0_12 + (Int.tmod (wrap64 (a1)) 10001))) * (wrap64 (a0_12 + (Int.tmod (wrap64 (a1)) 10001))))))) == (wrap64 ((wrap64 (-x16_32)) * x16_32))) a0_0 a0_1 a0_2 a0_3 l0_4 a0_5 a0_6 a0_7 a0_8 a0_9 a0_10 a0_11 a0_12 a0_13 a0_14 a0_15 a0_16 a0_17 0 0 a0_20 a3_0 a3_1 a3_2 a4_0 a4_1 a4_2) else (compositorlaw21_DemPlain.j4 kj32 a5 t223 false a0_0 a0_1 a0_2 a0_3 l0_4 a0_5 a0_6 a0_7 a0_8 a0_9 a0_10 a0_11 a0_12 a0_13 a0_14 a0_15 a0_16 a0_17 0 0 a0_20 a3_0 a3_1 a3_2 a4_0 a4_1 a4_2))) = some r := H
          have A38 := Aside0.mk A380
          clear A380
          have HC39 := Aside0.mk H
          clear H
          try go_wp2
          have n0_ := Aside0.mk (blk_drew BK220.out)
          have n1_ := Aside0.mk (blk_drew BK221.out)
          have n2_ := Aside0.mk (blk_drew BK222.out)
          have n3_ := Aside0.mk (below_drew1 HB.out)
          clear BK220
          clear BK221
          clear BK222
          clear HB
          have BK220 := n0_
          have BK221 := n1_
          have BK222 := n2_
          have HB := n3_
          clear n0_ n1_ n2_ n3_
          refine start_ (n := 15) (S := fun w' => w'.heap[gb220]? = some (.cells #[.int .i64 a0_0, .int .i64 a0_1, .int .i64 a0_2, .int .i64 a0_3, .slice A0_4 l0_4.length c0_4, .int .i64 a0_5, .int .i64 a0_6, .int .i64 a0_7, .int .i64 a0_8, .int .i64 a0_9, .int .i64 a0_10, .int .i64 a0_11, .int .i64 a0_12, .int .i64 a0_13, .int .i64 a0_14, .int .i64 a0_15, .int .i64 a0_16, .int .i64 a0_17, .int .i64 0, .int .i64 0, .int .i64 a0_20] 24)) (ds := []) #[false, false, false, false, false, false, false, false, false, false, false, false, false, false, false] (by kernel_rfl) rfl rfl BK220.out (fun hHeld => ?_); refine with_tabW compositorlaw21_DemPlain.tab13 compositorlaw21_DemPlain.bits13 (fun HT_ HW_ => ?_)
          generalize wc.drew = w40 at BK220 BK221 BK222 HB hHeld ⊢
          refine pure_ (i := 1) (N := some 55) (v := ?_) (a' := ?_) #[false, true, false, false, false, false, false, false, false, false, false, false, false, false, false] rfl rfl (any_of HT_.out (by kernel_rfl)) (fun _ _ _ h => h) (Or.inl ⟨by rfl, ?_⟩) ?_ ?_
          rotate_left
          ·intro w'
           go_simp
           with_reducible rfl
          rotate_left
          ·simp only [Act.put, List.setIfInBounds_toArray, List.set_cons_zero, List.set_cons_succ, i64_w, i32_w]
           rfl
          refine pure_ (i := 2) (N := some 56) (v := ?_) (a' := ?_) #[false, true, true, false, false, false, false, false, false, false, false, false, false, false, false] rfl rfl (any_of HT_.out (by kernel_rfl)) (fun _ _ _ h => h) (Or.inl ⟨by rfl, ?_⟩) ?_ ?_
          rotate_left
          ·intro w'
           go_simp
           with_reducible rfl
          rotate_left
          ·simp only [Act.put, List.setIfInBounds_toArray, List.set_cons_zero, List.set_cons_succ, i64_w, i32_w]
           rfl
          refine pure_ (i := 4) (N := some 58) (v := ?_) (a' := ?_) #[false, true, true, false, true, false, false, false, false, false, false, false, false, false, false] rfl rfl (any_of HT_.out (by kernel_rfl)) (fun _ _ _ h => h) (Or.inl ⟨by rfl, ?_⟩) ?_ ?_
          rotate_left
          ·intro w'
           go_simp
           with_reducible rfl
          rotate_left
          ·simp only [Act.put, List.setIfInBounds_toArray, List.set_cons_zero, List.set_cons_succ, i64_w, i32_w]
           rfl
          refine pure_ (i := 6) (N := some 60) (v := ?_) (a' := ?_) #[false, true, true, false, true, false, true, false, false, false, false, false, false, false, false] rfl rfl (any_of HT_.out (by kernel_rfl)) (fun _ _ _ h => h) (Or.inl ⟨by rfl, ?_⟩) ?_ ?_
          rotate_left
          ·intro w'
           go_simp
           with_reducible rfl
          rotate_left
          ·simp only [Act.put, List.setIfInBounds_toArray, List.set_cons_zero, List.set_cons_succ, i64_w, i32_w]
           rfl
          refine pure_ (i := 8) (N := some 62) (v := ?_) (a' := ?_) #[false, true, true, false, true, false, true, false, true, false, false, false, false, false, false] rfl rfl (any_of HT_.out (by kernel_rfl)) (fun _ _ _ h => h) (Or.inl ⟨by rfl, ?_⟩) ?_ ?_
          rotate_left
          ·intro w'
           go_simp
           with_reducible rfl
          rotate_left
          ·simp only [Act.put, List.setIfInBounds_toArray, List.set_cons_zero, List.set_cons_succ, i64_w, i32_w]
           rfl
          refine pure_ (i := 10) (N := some 64) (v := ?_) (a' := ?_) #[false, true, true, false, true, false, true, false, true, false, true, false, false, false, false] rfl rfl (any_of HT_.out (by kernel_rfl)) (fun _ _ _ h => h) (Or.inl ⟨by rfl, ?_⟩) ?_ ?_
          rotate_left
          ·intro w'
           go_simp
           with_reducible rfl
          rotate_left
          ·simp only [Act.put, List.setIfInBounds_toArray, List.set_cons_zero, List.set_cons_succ, i64_w, i32_w]
           rfl
          refine takeP_ (i := 0) (N := some 54) (v := ?_) (a' := ?_) #[true, true, true, false, true, false, true, false, true, false, true, false, false, false, false] rfl rfl (take_ofW HT_.out HW_.out (by kernel_rfl)) (fun _ _ _ _ h => h) (Or.inl ⟨by rfl, ?_⟩) hHeld ?_ ?_
          rotate_left
          ·intro w' sB0
           have sC0 := blk_cell sB0
           first | (refine @yields_row Try.prog _ _ w' 24 (.tmp 6) ?_ gb220 ?_ 24 _ (0, 0) _ sB0 hu24 rfl (by kernel_rfl) <;> rfl) | (go_simp; with_reducible rfl)
          rotate_left
          ·simp only [Act.put, List.setIfInBounds_toArray, List.set_cons_zero, List.set_cons_succ, i64_w, i32_w]
           rfl
          refine takeP_ (i := 5) (N := some 59) (v := ?_) (a' := ?_) #[true, true, true, false, true, true, true, false, true, false, true, false, false, false, false] rfl rfl (take_ofW HT_.out HW_.out (by kernel_rfl)) (fun _ _ _ _ h => h) (Or.inl ⟨by rfl, ?_⟩) hHeld ?_ ?_
          rotate_left
          ·intro w' sB0
           have sC0 := blk_cell sB0
           first | (refine @yields_row Try.prog _ _ w' 24 (.tmp 6) ?_ gb220 ?_ 24 _ (0, 0) _ sB0 hu24 rfl (by kernel_rfl) <;> rfl) | (go_simp; with_reducible rfl)
          rotate_left
          ·simp only [Act.put, List.setIfInBounds_toArray, List.set_cons_zero, List.set_cons_succ, i64_w, i32_w]
           rfl
          refine pure_ (i := 7) (N := some 61) (v := ?_) (a' := ?_) #[true, true, true, false, true, true, true, true, true, false, true, false, false, false, false] rfl rfl (any_of HT_.out (by kernel_rfl)) (fun _ _ _ h => h) (Or.inl ⟨by rfl, ?_⟩) ?_ ?_
          rotate_left
          ·intro w'
           go_simp
           with_reducible rfl
          rotate_left
          ·simp only [Act.put, List.setIfInBounds_toArray, List.set_cons_zero, List.set_cons_succ, i64_w, i32_w]
           rfl
          refine takeP_ (i := 9) (N := some 63) (v := ?_) (a' := ?_) #[true, true, true, false, true, true, true, true, true, true, true, false, false, false, false] rfl rfl (take_ofW HT_.out HW_.out (by kernel_rfl)) (fun _ _ _ _ h => h) (Or.inl ⟨by rfl, ?_⟩) hHeld ?_ ?_
          rotate_left
          ·intro w' sB0
           have sC0 := blk_cell sB0
           first | (refine @yields_row Try.prog _ _ w' 24 (.tmp 6) ?_ gb220 ?_ 24 _ (0, 0) _ sB0 hu24 rfl (by kernel_rfl) <;> rfl) | (go_simp; with_reducible rfl)
          rotate_left
          ·simp only [Act.put, List.setIfInBounds_toArray, List.set_cons_zero, List.set_cons_succ, i64_w, i32_w]
           rfl
          refine pure_ (i := 11) (N := some 65) (v := ?_) (a' := ?_) #[true, true, true, false, true, true, true, true, true, true, true, true, false, false, false] rfl rfl (any_of HT_.out (by kernel_rfl)) (fun _ _ _ h => h) (Or.inl ⟨by rfl, ?_⟩) ?_ ?_
          rotate_left
          ·intro w'
           go_simp
           with_reducible rfl
          rotate_left
          ·simp only [Act.put, List.setIfInBounds_toArray, List.set_cons_zero, List.set_cons_succ, i64_w, i32_w]
           rfl
          refine pure_ (i := 12) (N := some 66) (v := ?_) (a' := ?_) #[true, true, true, false, true, true, true, true, true, true, true, true, true, false, false] rfl rfl (any_of HT_.out (by kernel_rfl)) (fun _ _ _ h => h) (Or.inl ⟨by rfl, ?_⟩) ?_ ?_
          rotate_left
          ·intro w'
           go_simp
           with_reducible rfl
          rotate_left
          ·simp only [Act.put, List.setIfInBounds_toArray, List.set_cons_zero, List.set_cons_succ, i64_w, i32_w]
           rfl
          refine one_ (i := 3) (N := some 57) #[true, true, true, true, true, true, true, true, true, true, true, true, true, false, false] rfl rfl (one_of HT_.out (by kernel_rfl)) (by decide) (fun K hK => ?_)
          refine goes_ Try.func9 (by kernel_rfl) rfl #[.agg #[.int .i64 a0_0, .int .i64 a0_1, .int .i64 a0_2, .int .i64 a0_3, .slice A0_4 l0_4.length c0_4, .int .i64 a0_5, .int .i64 a0_6, .int .i64 a0_7, .int .i64 a0_8, .int .i64 a0_9, .int .i64 a0_10, .int .i64 a0_11, .int .i64 a0_12, .int .i64 a0_13, .int .i64 a0_14, .int .i64 a0_15, .int .i64 a0_16, .int .i64 a0_17, .int .i64 0, .int .i64 0, .int .i64 a0_20], .int .i64 (Int.tmod (wrap64 (a1)) 10001), .int .i64 (Int.tmod (wrap64 (a2)) 6)] (by rfl) rfl rfl (by (try simp only [List.map_toArray, List.map_cons, List.map_nil]); first | done | rfl | (simp only [List.length_drop, List.length_take]; rfl)) ?_
          with_reducible refine (dem_Own.calls kj32 a0_0 a0_1 a0_2 a0_3 _ _ l0_4 a0_5 a0_6 a0_7 a0_8 a0_9 a0_10 a0_11 a0_12 a0_13 a0_14 a0_15 a0_16 a0_17 0 0 a0_20 (Int.tmod (wrap64 (a1)) 10001) (Int.tmod (wrap64 (a2)) 6) t225 _ ?side1 ?side2 A38.out).mono ?_
          (case side1 => repeat (first | exact (Kd.C_below HR0_4.out HB.out) | (with_reducible refine Kd.C_alloc ?_ _) | (with_reducible refine Kd.C_drewN ?_ _) | (with_reducible refine Kd.C_drew ?_)))
          (case side2 => exact HC0_4.out)
          rintro e w41 ⟨rfl, hb⟩
          refine ⟨_, rfl, ?_⟩
          have n0_ := Aside0.mk (blk_below (g := gb220) (o := .cells #[.int .i64 a0_0, .int .i64 a0_1, .int .i64 a0_2, .int .i64 a0_3, .slice A0_4 l0_4.length c0_4, .int .i64 a0_5, .int .i64 a0_6, .int .i64 a0_7, .int .i64 a0_8, .int .i64 a0_9, .int .i64 a0_10, .int .i64 a0_11, .int .i64 a0_12, .int .i64 a0_13, .int .i64 a0_14, .int .i64 a0_15, .int .i64 a0_16, .int .i64 a0_17, .int .i64 0, .int .i64 0, .int .i64 a0_20] 24 (0, 0)) (by (with_reducible repeat (first | refine blk_drewN ?_ _ | refine blk_drew ?_ | refine blk_alloc ?_ _)); exact BK220.out) hb)
          have n1_ := Aside0.mk (blk_below (g := gb221) (o := .cells #[.int .i64 a3_0, .int .i64 a3_1, .int .i64 a3_2] 26 (0, 0)) (by (with_reducible repeat (first | refine blk_drewN ?_ _ | refine blk_drew ?_ | refine blk_alloc ?_ _)); exact BK221.out) hb)
          have n2_ := Aside0.mk (blk_below (g := gb222) (o := .cells #[.int .i64 a4_0, .int .i64 a4_1, .int .i64 a4_2] 26 (0, 0)) (by (with_reducible repeat (first | refine blk_drewN ?_ _ | refine blk_drew ?_ | refine blk_alloc ?_ _)); exact BK222.out) hb)
          have n3_ := Aside0.mk (below_step (by repeat (first | (with_reducible first | exact HB.out | apply below_alloc | apply pw_below_drewN | apply below_drew1 | refine below_set ?_ GE220.out | refine below_set ?_ GE221.out | refine below_set ?_ GE222.out) | exact HB.out)) hb)
          clear BK220
          clear BK221
          clear BK222
          clear HB
          have BK220 := n0_
          have BK221 := n1_
          have BK222 := n2_
          have HB := n3_
          clear n0_ n1_ n2_ n3_
          (try clear hb)
          (try clear hb2)
          (try clear hk)
          (try clear hi)
          refine hK.out _ _ BK220.out (fun hHeld => ?_)
          clear hK K
          refine norm_ (a' := ?_) ?_ ?_
          rotate_left
          ·show Act.put _ (some 57) _ = _
           simp only [Act.put, List.setIfInBounds_toArray, List.set_cons_zero, List.set_cons_succ, i64_w, i32_w]
           rfl
          refine pure_ (i := 13) (N := some 67) (v := ?_) (a' := ?_) #[true, true, true, true, true, true, true, true, true, true, true, true, true, true, false] rfl rfl (any_of HT_.out (by kernel_rfl)) (fun _ _ _ h => h) (Or.inl ⟨by rfl, ?_⟩) ?_ ?_
          rotate_left
          ·intro w'
           go_simp
           with_reducible rfl
          rotate_left
          ·simp only [Act.put, List.setIfInBounds_toArray, List.set_cons_zero, List.set_cons_succ, i64_w, i32_w]
           rfl
          refine pure_ (i := 14) (N := some 17) (v := ?_) (a' := ?_) #[true, true, true, true, true, true, true, true, true, true, true, true, true, true, true] rfl rfl (any_of HT_.out (by kernel_rfl)) (fun _ _ _ h => h) (Or.inl ⟨by rfl, ?_⟩) ?_ ?_
          rotate_left
          ·intro w'
           go_simp
           with_reducible rfl
          rotate_left
          ·simp only [Act.put, List.setIfInBounds_toArray, List.set_cons_zero, List.set_cons_succ, i64_w, i32_w]
           rfl
          refine done_ (done_of HT_.out (by kernel_rfl)) ?_
          go_upto_region 14 with (fail)
          go_cut [18] (fun v18 wc => ∃ (kq : Nat) (x18_38 : Bool), v18 = .bool x18_38 ∧ Aside0 (compositorlaw21_DemPlain.j4 kq a5 t223 x18_38 a0_0 a0_1 a0_2 a0_3 l0_4 a0_5 a0_6 a0_7 a0_8 a0_9 a0_10 a0_11 a0_12 a0_13 a0_14 a0_15 a0_16 a0_17 0 0 a0_20 a3_0 a3_1 a3_2 a4_0 a4_1 a4_2 = some r) ∧ Aside0 (kq ≤ kj32) ∧ Aside0 (wc.heap[gb220]? = some (.cells #[.int .i64 a0_0, .int .i64 a0_1, .int .i64 a0_2, .int .i64 a0_3, (.slice A0_4 l0_4.length c0_4), .int .i64 a0_5, .int .i64 a0_6, .int .i64 a0_7, .int .i64 a0_8, .int .i64 a0_9, .int .i64 a0_10, .int .i64 a0_11, .int .i64 a0_12, .int .i64 a0_13, .int .i64 a0_14, .int .i64 a0_15, .int .i64 a0_16, .int .i64 a0_17, .int .i64 0, .int .i64 0, .int .i64 a0_20] 24 (0, 0))) ∧ Aside0 (wc.heap[gb221]? = some (.cells #[.int .i64 a3_0, .int .i64 a3_1, .int .i64 a3_2] 26 (0, 0))) ∧ Aside0 (wc.heap[gb222]? = some (.cells #[.int .i64 a4_0, .int .i64 a4_1, .int .i64 a4_2] 26 (0, 0))) ∧ Aside0 (Below w.heap.size w wc))
          case first => as_aux_lemma =>
           have H := HC39.out
           clear HC39
           by_cases c42 : x16_32 ≥ 0
           ·rw [if_pos c42] at H
            have c42b0 : decide (0 ≤ x16_32) = true := decide_eq_true c42
            clear c42
            (first | rw [c42b0] | (simp only [i64_w, i32_w]; rw [c42b0]) | skip)
            by_cases c43 : (wrap64 (t225 - (wrap64 ((wrap64 (a0_12 + (Int.tmod (wrap64 (a1)) 10001))) * (wrap64 (a0_12 + (Int.tmod (wrap64 (a1)) 10001))))))) = (wrap64 (x16_32 * x16_32))
            ·rw [if_pos c43] at H
             have c43b0 : ((wrap64 (t225 - (wrap64 ((wrap64 (a0_12 + (Int.tmod (wrap64 (a1)) 10001))) * (wrap64 (a0_12 + (Int.tmod (wrap64 (a1)) 10001))))))) == (wrap64 (x16_32 * x16_32))) = true := beq_iff_eq.mpr c43
             have c43b1 : ((wrap64 (t225 - (wrap64 ((wrap64 (a0_12 + (Int.tmod (wrap64 (a1)) 10001))) * (wrap64 (a0_12 + (Int.tmod (wrap64 (a1)) 10001))))))) != (wrap64 (x16_32 * x16_32))) = false := bne_eq_false_iff_eq.mpr c43
             (try (have c43b2 : ((IntKind.i64.wrap (t225 - (IntKind.i64.wrap ((IntKind.i64.wrap (a0_12 + (Int.tmod (IntKind.i64.wrap (a1)) 10001))) * (IntKind.i64.wrap (a0_12 + (Int.tmod (IntKind.i64.wrap (a1)) 10001))))))) == (IntKind.i64.wrap (x16_32 * x16_32))) = true := by simp only [i64_w]; exact (beq_iff_eq.mpr c43)))
             (try (have c43b3 : ((IntKind.i64.wrap (t225 - (IntKind.i64.wrap ((IntKind.i64.wrap (a0_12 + (Int.tmod (IntKind.i64.wrap (a1)) 10001))) * (IntKind.i64.wrap (a0_12 + (Int.tmod (IntKind.i64.wrap (a1)) 10001))))))) != (IntKind.i64.wrap (x16_32 * x16_32))) = false := by simp only [i64_w]; exact (bne_eq_false_iff_eq.mpr c43)))
             clear c43
             have H' := Aside0.mk H
             clear H
             go_wp2
             go_meet
             case rel => exact ⟨_, (true), (by first | rfl | (simp; done) | (simp [*]; done)), H', ⟨by have := HJ7.out; have := HJ25.out; have := HJ27.out; have := HJ32.out; first | omega | exact Nat.le_refl _⟩, ⟨by (with_reducible repeat (first | refine blk_drewN ?_ _ | refine blk_drew ?_ | refine blk_alloc ?_ _)); exact BK220.out⟩, ⟨by (with_reducible repeat (first | refine blk_drewN ?_ _ | refine blk_drew ?_ | refine blk_alloc ?_ _)); exact BK221.out⟩, ⟨by (with_reducible repeat (first | refine blk_drewN ?_ _ | refine blk_drew ?_ | refine blk_alloc ?_ _)); exact BK222.out⟩, ⟨by repeat (first | (with_reducible first | exact HB.out | apply below_alloc | apply pw_below_drewN | apply below_drew1 | refine below_set ?_ GE220.out | refine below_set ?_ GE221.out | refine below_set ?_ GE222.out) | exact HB.out)⟩⟩
            ·rw [if_neg c43] at H
             have c43b0 : ((wrap64 (t225 - (wrap64 ((wrap64 (a0_12 + (Int.tmod (wrap64 (a1)) 10001))) * (wrap64 (a0_12 + (Int.tmod (wrap64 (a1)) 10001))))))) == (wrap64 (x16_32 * x16_32))) = false := beq_eq_false_iff_ne.mpr c43
             have c43b1 : ((wrap64 (t225 - (wrap64 ((wrap64 (a0_12 + (Int.tmod (wrap64 (a1)) 10001))) * (wrap64 (a0_12 + (Int.tmod (wrap64 (a1)) 10001))))))) != (wrap64 (x16_32 * x16_32))) = true := bne_iff_ne.mpr c43
             (try (have c43b2 : ((IntKind.i64.wrap (t225 - (IntKind.i64.wrap ((IntKind.i64.wrap (a0_12 + (Int.tmod (IntKind.i64.wrap (a1)) 10001))) * (IntKind.i64.wrap (a0_12 + (Int.tmod (IntKind.i64.wrap (a1)) 10001))))))) == (IntKind.i64.wrap (x16_32 * x16_32))) = false := by simp only [i64_w]; exact (beq_eq_false_iff_ne.mpr c43)))
             (try (have c43b3 : ((IntKind.i64.wrap (t225 - (IntKind.i64.wrap ((IntKind.i64.wrap (a0_12 + (Int.tmod (IntKind.i64.wrap (a1)) 10001))) * (IntKind.i64.wrap (a0_12 + (Int.tmod (IntKind.i64.wrap (a1)) 10001))))))) != (IntKind.i64.wrap (x16_32 * x16_32))) = true := by simp only [i64_w]; exact (bne_iff_ne.mpr c43)))
             by_cases c44 : x16_32 < 0
             ·rw [if_pos c44] at H
              have c44b0 : decide (x16_32 < 0) = true := decide_eq_true c44
              clear c44
              have H' := Aside0.mk H
              clear H
              go_wp2
              go_meet
              case rel => exact ⟨_, (((wrap64 (t225 - (wrap64 ((wrap64 (a0_12 + (Int.tmod (wrap64 (a1)) 10001))) * (wrap64 (a0_12 + (Int.tmod (wrap64 (a1)) 10001))))))) == (wrap64 ((wrap64 (-x16_32)) * x16_32)))), (by first | rfl | (simp; done) | (simp [*]; done)), H', ⟨by have := HJ7.out; have := HJ25.out; have := HJ27.out; have := HJ32.out; first | omega | exact Nat.le_refl _⟩, ⟨by (with_reducible repeat (first | refine blk_drewN ?_ _ | refine blk_drew ?_ | refine blk_alloc ?_ _)); exact BK220.out⟩, ⟨by (with_reducible repeat (first | refine blk_drewN ?_ _ | refine blk_drew ?_ | refine blk_alloc ?_ _)); exact BK221.out⟩, ⟨by (with_reducible repeat (first | refine blk_drewN ?_ _ | refine blk_drew ?_ | refine blk_alloc ?_ _)); exact BK222.out⟩, ⟨by repeat (first | (with_reducible first | exact HB.out | apply below_alloc | apply pw_below_drewN | apply below_drew1 | refine below_set ?_ GE220.out | refine below_set ?_ GE221.out | refine below_set ?_ GE222.out) | exact HB.out)⟩⟩
             ·rw [if_neg c44] at H
              have c44b0 : decide (x16_32 < 0) = false := decide_eq_false c44
              clear c44
              have H' := Aside0.mk H
              clear H
              go_wp2
              go_meet
              case rel => exact ⟨_, (false), (by first | rfl | (simp; done) | (simp [*]; done)), H', ⟨by have := HJ7.out; have := HJ25.out; have := HJ27.out; have := HJ32.out; first | omega | exact Nat.le_refl _⟩, ⟨by (with_reducible repeat (first | refine blk_drewN ?_ _ | refine blk_drew ?_ | refine blk_alloc ?_ _)); exact BK220.out⟩, ⟨by (with_reducible repeat (first | refine blk_drewN ?_ _ | refine blk_drew ?_ | refine blk_alloc ?_ _)); exact BK221.out⟩, ⟨by (with_reducible repeat (first | refine blk_drewN ?_ _ | refine blk_drew ?_ | refine blk_alloc ?_ _)); exact BK222.out⟩, ⟨by repeat (first | (with_reducible first | exact HB.out | apply below_alloc | apply pw_below_drewN | apply below_drew1 | refine below_set ?_ GE220.out | refine below_set ?_ GE221.out | refine below_set ?_ GE222.out) | exact HB.out)⟩⟩
           ·rw [if_neg c42] at H
            have c42b0 : decide (0 ≤ x16_32) = false := decide_eq_false c42
            clear c42
            (first | rw [c42b0] | (simp only [i64_w, i32_w]; rw [c42b0]) | skip)
            by_cases c45 : x16_32 < 0
            ·rw [if_pos c45] at H
             have c45b0 : decide (x16_32 < 0) = true := decide_eq_true c45
             clear c45
             have H' := Aside0.mk H
             clear H
             go_wp2
             go_meet
             case rel => exact ⟨_, (((wrap64 (t225 - (wrap64 ((wrap64 (a0_12 + (Int.tmod (wrap64 (a1)) 10001))) * (wrap64 (a0_12 + (Int.tmod (wrap64 (a1)) 10001))))))) == (wrap64 ((wrap64 (-x16_32)) * x16_32)))), (by first | rfl | (simp; done) | (simp [*]; done)), H', ⟨by have := HJ7.out; have := HJ25.out; have := HJ27.out; have := HJ32.out; first | omega | exact Nat.le_refl _⟩, ⟨by (with_reducible repeat (first | refine blk_drewN ?_ _ | refine blk_drew ?_ | refine blk_alloc ?_ _)); exact BK220.out⟩, ⟨by (with_reducible repeat (first | refine blk_drewN ?_ _ | refine blk_drew ?_ | refine blk_alloc ?_ _)); exact BK221.out⟩, ⟨by (with_reducible repeat (first | refine blk_drewN ?_ _ | refine blk_drew ?_ | refine blk_alloc ?_ _)); exact BK222.out⟩, ⟨by repeat (first | (with_reducible first | exact HB.out | apply below_alloc | apply pw_below_drewN | apply below_drew1 | refine below_set ?_ GE220.out | refine below_set ?_ GE221.out | refine below_set ?_ GE222.out) | exact HB.out)⟩⟩
            ·rw [if_neg c45] at H
             have c45b0 : decide (x16_32 < 0) = false := decide_eq_false c45
             clear c45
             have H' := Aside0.mk H
             clear H
             go_wp2
             go_meet
             case rel => exact ⟨_, (false), (by first | rfl | (simp; done) | (simp [*]; done)), H', ⟨by have := HJ7.out; have := HJ25.out; have := HJ27.out; have := HJ32.out; first | omega | exact Nat.le_refl _⟩, ⟨by (with_reducible repeat (first | refine blk_drewN ?_ _ | refine blk_drew ?_ | refine blk_alloc ?_ _)); exact BK220.out⟩, ⟨by (with_reducible repeat (first | refine blk_drewN ?_ _ | refine blk_drew ?_ | refine blk_alloc ?_ _)); exact BK221.out⟩, ⟨by (with_reducible repeat (first | refine blk_drewN ?_ _ | refine blk_drew ?_ | refine blk_alloc ?_ _)); exact BK222.out⟩, ⟨by repeat (first | (with_reducible first | exact HB.out | apply below_alloc | apply pw_below_drewN | apply below_drew1 | refine below_set ?_ GE220.out | refine below_set ?_ GE221.out | refine below_set ?_ GE222.out) | exact HB.out)⟩⟩
          case rest => as_aux_lemma =>
           clear HC39
           try clear c1
           try clear c2
           try clear p2
           try clear c3
           try clear c4
           try clear p6
           try clear c8
           try clear c9
           try clear c13
           try clear c14
           try clear c16
           try clear c16b0
           try clear c16b1
           try clear c17
           try clear c18
           try clear c21
           try clear c22
           try clear c25
           try clear c27
           try clear c27b0
           try clear c27b1
           try clear c27b2
           try clear c29
           try clear c30
           try clear c31
           try clear c34
           try clear c34b0
           try clear c34b1
           try clear c34b2
           try clear c35
           try clear c36
           try clear c42
           try clear c42b0
           try clear c43
           try clear c43b0
           try clear c43b1
           try clear c43b2
           try clear c44
           try clear c44b0
           try clear c45
           try clear c45b0
           try clear hcz15_0
           try clear hcz15_1
           try clear hcz15_10
           try clear hcz15_11
           try clear hcz15_12
           try clear hcz15_13
           try clear hcz15_14
           try clear hcz15_15
           try clear hcz15_16
           try clear hcz15_17
           try clear hcz15_18
           try clear hcz15_19
           try clear hcz15_2
           try clear hcz15_20
           try clear hcz15_3
           try clear hcz15_4
           try clear hcz15_5
           try clear hcz15_6
           try clear hcz15_7
           try clear hcz15_8
           try clear hcz15_9
           try clear hcz19_0
           try clear hcz19_1
           try clear hcz19_10
           try clear hcz19_11
           try clear hcz19_12
           try clear hcz19_13
           try clear hcz19_14
           try clear hcz19_15
           try clear hcz19_16
           try clear hcz19_17
           try clear hcz19_18
           try clear hcz19_19
           try clear hcz19_2
           try clear hcz19_20
           try clear hcz19_3
           try clear hcz19_4
           try clear hcz19_5
           try clear hcz19_6
           try clear hcz19_7
           try clear hcz19_8
           try clear hcz19_9
           try clear hcz23_0
           try clear hcz23_1
           try clear hcz23_10
           try clear hcz23_11
           try clear hcz23_12
           try clear hcz23_13
           try clear hcz23_14
           try clear hcz23_15
           try clear hcz23_16
           try clear hcz23_17
           try clear hcz23_18
           try clear hcz23_19
           try clear hcz23_2
           try clear hcz23_20
           try clear hcz23_3
           try clear hcz23_4
           try clear hcz23_5
           try clear hcz23_6
           try clear hcz23_7
           try clear hcz23_8
           try clear hcz23_9
           try clear hcz32_0
           try clear hcz32_1
           try clear hcz32_10
           try clear hcz32_11
           try clear hcz32_12
           try clear hcz32_13
           try clear hcz32_14
           try clear hcz32_15
           try clear hcz32_16
           try clear hcz32_17
           try clear hcz32_18
           try clear hcz32_19
           try clear hcz32_2
           try clear hcz32_20
           try clear hcz32_3
           try clear hcz32_4
           try clear hcz32_5
           try clear hcz32_6
           try clear hcz32_7
           try clear hcz32_8
           try clear hcz32_9
           try clear hcz37_0
           try clear hcz37_1
           try clear hcz37_10
           try clear hcz37_11
           try clear hcz37_12
           try clear hcz37_13
           try clear hcz37_14
           try clear hcz37_15
           try clear hcz37_16
           try clear hcz37_17
           try clear hcz37_18
           try clear hcz37_19
           try clear hcz37_2
           try clear hcz37_20
           try clear hcz37_3
           try clear hcz37_4
           try clear hcz37_5
           try clear hcz37_6
           try clear hcz37_7
           try clear hcz37_8
           try clear hcz37_9
           try clear hfz15_0
           try clear hfz15_1
           try clear hfz15_10
           try clear hfz15_11
           try clear hfz15_12
           try clear hfz15_13
           try clear hfz15_14
           try clear hfz15_15
           try clear hfz15_16
           try clear hfz15_17
           try clear hfz15_18
           try clear hfz15_19
           try clear hfz15_2
           try clear hfz15_20
           try clear hfz15_3
           try clear hfz15_4
           try clear hfz15_5
           try clear hfz15_6
           try clear hfz15_7
           try clear hfz15_8
           try clear hfz15_9
           try clear hfz19_0
           try clear hfz19_1
           try clear hfz19_10
           try clear hfz19_11
           try clear hfz19_12
           try clear hfz19_13
           try clear hfz19_14
           try clear hfz19_15
           try clear hfz19_16
           try clear hfz19_17
           try clear hfz19_18
           try clear hfz19_19
           try clear hfz19_2
           try clear hfz19_20
           try clear hfz19_3
           try clear hfz19_4
           try clear hfz19_5
           try clear hfz19_6
           try clear hfz19_7
           try clear hfz19_8
           try clear hfz19_9
           try clear hfz23_0
           try clear hfz23_1
           try clear hfz23_10
           try clear hfz23_11
           try clear hfz23_12
           try clear hfz23_13
           try clear hfz23_14
           try clear hfz23_15
           try clear hfz23_16
           try clear hfz23_17
           try clear hfz23_18
           try clear hfz23_19
           try clear hfz23_2
           try clear hfz23_20
           try clear hfz23_3
           try clear hfz23_4
           try clear hfz23_5
           try clear hfz23_6
           try clear hfz23_7
           try clear hfz23_8
           try clear hfz23_9
           try clear hfz32_0
           try clear hfz32_1
           try clear hfz32_10
           try clear hfz32_11
           try clear hfz32_12
           try clear hfz32_13
           try clear hfz32_14
           try clear hfz32_15
           try clear hfz32_16
           try clear hfz32_17
           try clear hfz32_18
           try clear hfz32_19
           try clear hfz32_2
           try clear hfz32_20
           try clear hfz32_3
           try clear hfz32_4
           try clear hfz32_5
           try clear hfz32_6
           try clear hfz32_7
           try clear hfz32_8
           try clear hfz32_9
           try clear hfz37_0
           try clear hfz37_1
           try clear hfz37_10
           try clear hfz37_11
           try clear hfz37_12
           try clear hfz37_13
           try clear hfz37_14
           try clear hfz37_15
           try clear hfz37_16
           try clear hfz37_17
           try clear hfz37_18
           try clear hfz37_19
           try clear hfz37_2
           try clear hfz37_20
           try clear hfz37_3
           try clear hfz37_4
           try clear hfz37_5
           try clear hfz37_6
           try clear hfz37_7
           try clear hfz37_8
           try clear hfz37_9
           try clear p2
           try clear p6
           obtain ⟨kq, x18_38, rfl, HA, HJ38, BK220, BK221, BK222, HB⟩ := hcut
           cases kq with
           | zero => exact absurd HA.out (by simp [compositorlaw21_DemPlain.j4])
           | succ kj38 =>
            have H := HA.out
            clear HA
            simp only [compositorlaw21_DemPlain.j4] at H
            replace H := Option.bind_eq_some_iff.mp H
            obtain ⟨t228, A460, H⟩ := H
            replace H : (if a3_0 = 2 then (compositorlaw21_DemPlain.j5 kj38 t223 x18_38 t228 true a0_0 a0_1 a0_2 a0_3 l0_4 a0_5 a0_6 a0_7 a0_8 a0_9 a0_10 a0_11 a0_12 a0_13 a0_14 a0_15 a0_16 a0_17 0 0 a0_20 a3_0 (Go.bits .and .i64 a3_1 3) 0 a4_0 (Go.bits .and .i64 a4_1 3) 0) else (compositorlaw21_DemPlain.j5 kj38 t223 x18_38 t228 (a3_0 == 3) a0_0 a0_1 a0_2 a0_3 l0_4 a0_5 a0_6 a0_7 a0_8 a0_9 a0_10 a0_11 a0_12 a0_13 a0_14 a0_15 a0_16 a0_17 0 0 a0_20 a3_0 (Go.bits .and .i64 a3_1 3) 0 a4_0 (Go.bits .and .i64 a4_1 3) 0)) = some r := H
            have A46 := Aside0.mk A460
            clear A460
            have HC47 := Aside0.mk H
            clear H
            have hnb48 := NB221_220.out
            have hnc48 := NB220_221.out
            have hnb49 := NB221_222.out
            have hnc49 := NB222_221.out
            have hcz50_0 : wc.cell? ⟨gb221, 0, none⟩ = some (.int .i64 a3_0) := (blk_cell BK221.out 0).trans rfl
            have hcz50_1 : wc.cell? ⟨gb221, 1, none⟩ = some (.int .i64 a3_1) := (blk_cell BK221.out 1).trans rfl
            have hcz50_2 : wc.cell? ⟨gb221, 2, none⟩ = some (.int .i64 a3_2) := (blk_cell BK221.out 2).trans rfl
            have hfz50_0 := blk_frozen BK221.out 0
            have hfz50_1 := blk_frozen BK221.out 1
            have hfz50_2 := blk_frozen BK221.out 2
            go_upto_region 18 with (first | ((with_reducible refine gate_load (T := 24) rfl ?_); refine load_row_event (by first | rfl | (go_simp; done)) 24 _ rfl gb220 rfl 24 _ (0, 0) _ (by (with_reducible repeat (first | refine blk_drewN ?_ _ | refine blk_drew ?_ | refine blk_alloc ?_ _)); first | with_reducible exact BK220.out | with_reducible exact (blk_far BK220.out NB220_221.out _) | with_reducible exact (blk_far (blk_far BK220.out NB220_221.out _) NB220_221.out _) | with_reducible exact (blk_far (blk_far (blk_far BK220.out NB220_221.out _) NB220_221.out _) NB220_221.out _) | with_reducible exact (blk_far BK220.out NB220_222.out _) | with_reducible exact (blk_far (blk_far BK220.out NB220_222.out _) NB220_222.out _) | with_reducible exact (blk_far (blk_far (blk_far BK220.out NB220_222.out _) NB220_222.out _) NB220_222.out _) | with_reducible exact (blk_far BK220.out NB220_226.out _) | with_reducible exact (blk_far (blk_far BK220.out NB220_226.out _) NB220_226.out _) | with_reducible exact (blk_far (blk_far (blk_far BK220.out NB220_226.out _) NB220_226.out _) NB220_226.out _) | with_reducible exact (blk_far BK220.out NB220_227.out _) | with_reducible exact (blk_far (blk_far BK220.out NB220_227.out _) NB220_227.out _) | with_reducible exact (blk_far (blk_far (blk_far BK220.out NB220_227.out _) NB220_227.out _) NB220_227.out _)) hu24 rfl (by kernel_rfl) ?_) | ((with_reducible refine gate_store (t := 24) rfl ?_); refine store_row_event (base := w.heap.size) rfl rfl 24 _ _ rfl (g := gb220) (by rfl) (by rfl) (by (with_reducible repeat (first | refine blk_drewN ?_ _ | refine blk_drew ?_ | refine blk_alloc ?_ _)); exact BK220.out) (by kernel_rfl) (by rfl) (by rfl) GE220.out ?_; intro ws_ hs_ hk_ hb_; have n0_ := Aside0.mk (Below.trans (by repeat (first | (with_reducible first | exact HB.out | apply below_alloc | apply pw_below_drewN | apply below_drew1) | exact HB.out)) hb_); clear HB; have HB := n0_; clear n0_; clear BK220; have BK220 := Aside0.mk hs_; clear hs_; (try (have z_ := Aside0.mk (blk_else BK221.out NB221_220.out hk_); clear BK221; have BK221 := z_; clear z_)); (try (have z_ := Aside0.mk (blk_else BK222.out NB222_220.out hk_); clear BK222; have BK222 := z_; clear z_)); (try (have z_ := Aside0.mk (blk_else BK226.out NB226_220.out hk_); clear BK226; have BK226 := z_; clear z_)); (try (have z_ := Aside0.mk (blk_else BK227.out NB227_220.out hk_); clear BK227; have BK227 := z_; clear z_)); have hxs_ := blk_cell BK220.out; have hys_ := blk_frozen BK220.out; clear hk_ hb_) | ((with_reducible refine gate_dst (N := 19) rfl ?_); refine box_event ?hg (N := 19) ?hd (cs := #[.int .i64 0, .int .i64 0, .int .i64 0]) (t := 26) ?hr ?_; (case hd => rfl); (case hg => rfl); (case hr => first | (go_simp; done) | (go_simp; rfl)); intro gb226 hg w51 hbox hb; have n0_ := Aside0.mk (blk_below (g := gb220) (o := .cells #[.int .i64 a0_0, .int .i64 a0_1, .int .i64 a0_2, .int .i64 a0_3, .slice A0_4 l0_4.length c0_4, .int .i64 a0_5, .int .i64 a0_6, .int .i64 a0_7, .int .i64 a0_8, .int .i64 a0_9, .int .i64 a0_10, .int .i64 a0_11, .int .i64 a0_12, .int .i64 a0_13, .int .i64 a0_14, .int .i64 a0_15, .int .i64 a0_16, .int .i64 a0_17, .int .i64 0, .int .i64 0, .int .i64 a0_20] 24 (0, 0)) (by (with_reducible repeat (first | refine blk_drewN ?_ _ | refine blk_drew ?_ | refine blk_alloc ?_ _)); exact BK220.out) hb); have n1_ := Aside0.mk (blk_below (g := gb221) (o := .cells #[.int .i64 a3_0, .int .i64 a3_1, .int .i64 a3_2] 26 (0, 0)) (by (with_reducible repeat (first | refine blk_drewN ?_ _ | refine blk_drew ?_ | refine blk_alloc ?_ _)); exact BK221.out) hb); have n2_ := Aside0.mk (blk_below (g := gb222) (o := .cells #[.int .i64 a4_0, .int .i64 a4_1, .int .i64 a4_2] 26 (0, 0)) (by (with_reducible repeat (first | refine blk_drewN ?_ _ | refine blk_drew ?_ | refine blk_alloc ?_ _)); exact BK222.out) hb); have n3_ := Aside0.mk (below_step (by repeat (first | (with_reducible first | exact HB.out | apply below_alloc | apply pw_below_drewN | apply below_drew1 | refine below_set ?_ GE220.out | refine below_set ?_ GE221.out | refine below_set ?_ GE222.out) | exact HB.out)) hb); have n4_ := Aside0.mk (hbox); have n5_ := Aside0.mk ((by rw [hg]; exact (below_size (by repeat (first | (with_reducible first | exact HB.out | apply below_alloc | apply pw_below_drewN | apply below_drew1 | refine below_set ?_ GE220.out | refine below_set ?_ GE221.out | refine below_set ?_ GE222.out) | exact HB.out))) : w.heap.size ≤ gb226)); have n6_ := Aside0.mk ((by rw [hg]; exact (below_size (by repeat (first | (with_reducible first | exact HB.out | apply below_alloc | apply pw_below_drewN | apply below_drew1 | refine below_set ?_ GE220.out | refine below_set ?_ GE221.out | refine below_set ?_ GE222.out) | exact HB.out))) : w.heap.size ≤ gb226)); have n7_ := Aside0.mk ((by rw [hg]; exact Nat.ne_of_lt (blk_lt (g := gb220) (o := .cells #[.int .i64 a0_0, .int .i64 a0_1, .int .i64 a0_2, .int .i64 a0_3, .slice A0_4 l0_4.length c0_4, .int .i64 a0_5, .int .i64 a0_6, .int .i64 a0_7, .int .i64 a0_8, .int .i64 a0_9, .int .i64 a0_10, .int .i64 a0_11, .int .i64 a0_12, .int .i64 a0_13, .int .i64 a0_14, .int .i64 a0_15, .int .i64 a0_16, .int .i64 a0_17, .int .i64 0, .int .i64 0, .int .i64 a0_20] 24 (0, 0)) (by (with_reducible repeat (first | refine blk_drewN ?_ _ | refine blk_drew ?_ | refine blk_alloc ?_ _)); exact BK220.out)) : gb220 ≠ gb226)); have n8_ := Aside0.mk ((by rw [hg]; exact Nat.ne_of_gt (blk_lt (g := gb220) (o := .cells #[.int .i64 a0_0, .int .i64 a0_1, .int .i64 a0_2, .int .i64 a0_3, .slice A0_4 l0_4.length c0_4, .int .i64 a0_5, .int .i64 a0_6, .int .i64 a0_7, .int .i64 a0_8, .int .i64 a0_9, .int .i64 a0_10, .int .i64 a0_11, .int .i64 a0_12, .int .i64 a0_13, .int .i64 a0_14, .int .i64 a0_15, .int .i64 a0_16, .int .i64 a0_17, .int .i64 0, .int .i64 0, .int .i64 a0_20] 24 (0, 0)) (by (with_reducible repeat (first | refine blk_drewN ?_ _ | refine blk_drew ?_ | refine blk_alloc ?_ _)); exact BK220.out)) : gb226 ≠ gb220)); have n9_ := Aside0.mk ((by rw [hg]; exact Nat.ne_of_lt (blk_lt (g := gb221) (o := .cells #[.int .i64 a3_0, .int .i64 a3_1, .int .i64 a3_2] 26 (0, 0)) (by (with_reducible repeat (first | refine blk_drewN ?_ _ | refine blk_drew ?_ | refine blk_alloc ?_ _)); exact BK221.out)) : gb221 ≠ gb226)); have n10_ := Aside0.mk ((by rw [hg]; exact Nat.ne_of_gt (blk_lt (g := gb221) (o := .cells #[.int .i64 a3_0, .int .i64 a3_1, .int .i64 a3_2] 26 (0, 0)) (by (with_reducible repeat (first | refine blk_drewN ?_ _ | refine blk_drew ?_ | refine blk_alloc ?_ _)); exact BK221.out)) : gb226 ≠ gb221)); have n11_ := Aside0.mk ((by rw [hg]; exact Nat.ne_of_lt (blk_lt (g := gb222) (o := .cells #[.int .i64 a4_0, .int .i64 a4_1, .int .i64 a4_2] 26 (0, 0)) (by (with_reducible repeat (first | refine blk_drewN ?_ _ | refine blk_drew ?_ | refine blk_alloc ?_ _)); exact BK222.out)) : gb222 ≠ gb226)); have n12_ := Aside0.mk ((by rw [hg]; exact Nat.ne_of_gt (blk_lt (g := gb222) (o := .cells #[.int .i64 a4_0, .int .i64 a4_1, .int .i64 a4_2] 26 (0, 0)) (by (with_reducible repeat (first | refine blk_drewN ?_ _ | refine blk_drew ?_ | refine blk_alloc ?_ _)); exact BK222.out)) : gb226 ≠ gb222)); clear BK220; clear BK221; clear BK222; clear HB; have BK220 := n0_; have BK221 := n1_; have BK222 := n2_; have HB := n3_; have BK226 := n4_; have GW226 := n5_; have GE226 := n6_; have NB220_226 := n7_; have NB226_220 := n8_; have NB221_226 := n9_; have NB226_221 := n10_; have NB222_226 := n11_; have NB226_222 := n12_; clear n0_ n1_ n2_ n3_ n4_ n5_ n6_ n7_ n8_ n9_ n10_ n11_ n12_; clear hb hbox hg; have hnb52 := NB226_220.out; have hnc52 := NB220_226.out; have hnb53 := NB226_221.out; have hnc53 := NB221_226.out; have hnb54 := NB226_222.out; have hnc54 := NB222_226.out; have hcz55_0 : w51.cell? ⟨gb226, 0, none⟩ = some (.int .i64 0) := (blk_cell BK226.out 0).trans rfl; have hcz55_1 : w51.cell? ⟨gb226, 1, none⟩ = some (.int .i64 0) := (blk_cell BK226.out 1).trans rfl; have hcz55_2 : w51.cell? ⟨gb226, 2, none⟩ = some (.int .i64 0) := (blk_cell BK226.out 2).trans rfl; have hfz55_0 := blk_frozen BK226.out 0; have hfz55_1 := blk_frozen BK226.out 1; have hfz55_2 := blk_frozen BK226.out 2; have hnb56 := NB222_220.out; have hnc56 := NB220_222.out; have hcz57_0 : w51.cell? ⟨gb222, 0, none⟩ = some (.int .i64 a4_0) := (blk_cell BK222.out 0).trans rfl; have hcz57_1 : w51.cell? ⟨gb222, 1, none⟩ = some (.int .i64 a4_1) := (blk_cell BK222.out 1).trans rfl; have hcz57_2 : w51.cell? ⟨gb222, 2, none⟩ = some (.int .i64 a4_2) := (blk_cell BK222.out 2).trans rfl; have hfz57_0 := blk_frozen BK222.out 0; have hfz57_1 := blk_frozen BK222.out 1; have hfz57_2 := blk_frozen BK222.out 2) | ((with_reducible refine gate_dst (N := 20) rfl ?_); refine box_event ?hg (N := 20) ?hd (cs := #[.int .i64 0, .int .i64 0, .int .i64 0]) (t := 26) ?hr ?_; (case hd => rfl); (case hg => rfl); (case hr => first | (go_simp; done) | (go_simp; rfl)); intro gb227 hg w58 hbox hb; have n0_ := Aside0.mk (blk_below (g := gb220) (o := .cells #[.int .i64 a0_0, .int .i64 a0_1, .int .i64 a0_2, .int .i64 a0_3, .slice A0_4 l0_4.length c0_4, .int .i64 a0_5, .int .i64 a0_6, .int .i64 a0_7, .int .i64 a0_8, .int .i64 a0_9, .int .i64 a0_10, .int .i64 a0_11, .int .i64 a0_12, .int .i64 a0_13, .int .i64 a0_14, .int .i64 a0_15, .int .i64 a0_16, .int .i64 a0_17, .int .i64 0, .int .i64 0, .int .i64 a0_20] 24 (0, 0)) (by (with_reducible repeat (first | refine blk_drewN ?_ _ | refine blk_drew ?_ | refine blk_alloc ?_ _)); refine blk_far ?_ NB220_226.out _; (with_reducible repeat (first | refine blk_drewN ?_ _ | refine blk_drew ?_ | refine blk_alloc ?_ _)); refine blk_far ?_ NB220_226.out _; (with_reducible repeat (first | refine blk_drewN ?_ _ | refine blk_drew ?_ | refine blk_alloc ?_ _)); refine blk_far ?_ NB220_226.out _; (with_reducible repeat (first | refine blk_drewN ?_ _ | refine blk_drew ?_ | refine blk_alloc ?_ _)); exact BK220.out) hb); have n1_ := Aside0.mk (blk_below (g := gb221) (o := .cells #[.int .i64 a3_0, .int .i64 a3_1, .int .i64 a3_2] 26 (0, 0)) (by (with_reducible repeat (first | refine blk_drewN ?_ _ | refine blk_drew ?_ | refine blk_alloc ?_ _)); refine blk_far ?_ NB221_226.out _; (with_reducible repeat (first | refine blk_drewN ?_ _ | refine blk_drew ?_ | refine blk_alloc ?_ _)); refine blk_far ?_ NB221_226.out _; (with_reducible repeat (first | refine blk_drewN ?_ _ | refine blk_drew ?_ | refine blk_alloc ?_ _)); refine blk_far ?_ NB221_226.out _; (with_reducible repeat (first | refine blk_drewN ?_ _ | refine blk_drew ?_ | refine blk_alloc ?_ _)); exact BK221.out) hb); have n2_ := Aside0.mk (blk_below (g := gb222) (o := .cells #[.int .i64 a4_0, .int .i64 a4_1, .int .i64 a4_2] 26 (0, 0)) (by (with_reducible repeat (first | refine blk_drewN ?_ _ | refine blk_drew ?_ | refine blk_alloc ?_ _)); refine blk_far ?_ NB222_226.out _; (with_reducible repeat (first | refine blk_drewN ?_ _ | refine blk_drew ?_ | refine blk_alloc ?_ _)); refine blk_far ?_ NB222_226.out _; (with_reducible repeat (first | refine blk_drewN ?_ _ | refine blk_drew ?_ | refine blk_alloc ?_ _)); refine blk_far ?_ NB222_226.out _; (with_reducible repeat (first | refine blk_drewN ?_ _ | refine blk_drew ?_ | refine blk_alloc ?_ _)); exact BK222.out) hb); have n3_ := Aside0.mk (blk_below (g := gb226) (o := .cells #[.int .i64 a3_0, .int .i64 (Go.bits .and .i64 a3_1 3), .int .i64 0] 26 (0, 0)) (by (with_reducible repeat (first | refine blk_drewN ?_ _ | refine blk_drew ?_ | refine blk_alloc ?_ _)); refine blk_put (cs := #[.int .i64 a3_0, .int .i64 (Go.bits .and .i64 a3_1 3), .int .i64 0]) ?_ 2 _ rfl; (with_reducible repeat (first | refine blk_drewN ?_ _ | refine blk_drew ?_ | refine blk_alloc ?_ _)); refine blk_put (cs := #[.int .i64 a3_0, .int .i64 0, .int .i64 0]) ?_ 1 _ rfl; (with_reducible repeat (first | refine blk_drewN ?_ _ | refine blk_drew ?_ | refine blk_alloc ?_ _)); refine blk_put (cs := #[.int .i64 0, .int .i64 0, .int .i64 0]) ?_ 0 _ rfl; (with_reducible repeat (first | refine blk_drewN ?_ _ | refine blk_drew ?_ | refine blk_alloc ?_ _)); exact BK226.out) hb); have n4_ := Aside0.mk (below_step (by repeat (first | (with_reducible first | exact HB.out | apply below_alloc | apply pw_below_drewN | apply below_drew1 | refine below_set ?_ GE220.out | refine below_set ?_ GE221.out | refine below_set ?_ GE222.out | refine below_set ?_ GE226.out) | exact HB.out)) hb); have n5_ := Aside0.mk (hbox); have n6_ := Aside0.mk ((by rw [hg]; exact (below_size (by repeat (first | (with_reducible first | exact HB.out | apply below_alloc | apply pw_below_drewN | apply below_drew1 | refine below_set ?_ GE220.out | refine below_set ?_ GE221.out | refine below_set ?_ GE222.out | refine below_set ?_ GE226.out) | exact HB.out))) : w.heap.size ≤ gb227)); have n7_ := Aside0.mk ((by rw [hg]; exact (below_size (by repeat (first | (with_reducible first | exact HB.out | apply below_alloc | apply pw_below_drewN | apply below_drew1 | refine below_set ?_ GE220.out | refine below_set ?_ GE221.out | refine below_set ?_ GE222.out | refine below_set ?_ GE226.out) | exact HB.out))) : w.heap.size ≤ gb227)); have n8_ := Aside0.mk ((by rw [hg]; exact Nat.ne_of_lt (blk_lt (g := gb220) (o := .cells #[.int .i64 a0_0, .int .i64 a0_1, .int .i64 a0_2, .int .i64 a0_3, .slice A0_4 l0_4.length c0_4, .int .i64 a0_5, .int .i64 a0_6, .int .i64 a0_7, .int .i64 a0_8, .int .i64 a0_9, .int .i64 a0_10, .int .i64 a0_11, .int .i64 a0_12, .int .i64 a0_13, .int .i64 a0_14, .int .i64 a0_15, .int .i64 a0_16, .int .i64 a0_17, .int .i64 0, .int .i64 0, .int .i64 a0_20] 24 (0, 0)) (by (with_reducible repeat (first | refine blk_drewN ?_ _ | refine blk_drew ?_ | refine blk_alloc ?_ _)); refine blk_far ?_ NB220_226.out _; (with_reducible repeat (first | refine blk_drewN ?_ _ | refine blk_drew ?_ | refine blk_alloc ?_ _)); refine blk_far ?_ NB220_226.out _; (with_reducible repeat (first | refine blk_drewN ?_ _ | refine blk_drew ?_ | refine blk_alloc ?_ _)); refine blk_far ?_ NB220_226.out _; (with_reducible repeat (first | refine blk_drewN ?_ _ | refine blk_drew ?_ | refine blk_alloc ?_ _)); exact BK220.out)) : gb220 ≠ gb227)); have n9_ := Aside0.mk ((by rw [hg]; exact Nat.ne_of_gt (blk_lt (g := gb220) (o := .cells #[.int .i64 a0_0, .int .i64 a0_1, .int .i64 a0_2, .int .i64 a0_3, .slice A0_4 l0_4.length c0_4, .int .i64 a0_5, .int .i64 a0_6, .int .i64 a0_7, .int .i64 a0_8, .int .i64 a0_9, .int .i64 a0_10, .int .i64 a0_11, .int .i64 a0_12, .int .i64 a0_13, .int .i64 a0_14, .int .i64 a0_15, .int .i64 a0_16, .int .i64 a0_17, .int .i64 0, .int .i64 0, .int .i64 a0_20] 24 (0, 0)) (by (with_reducible repeat (first | refine blk_drewN ?_ _ | refine blk_drew ?_ | refine blk_alloc ?_ _)); refine blk_far ?_ NB220_226.out _; (with_reducible repeat (first | refine blk_drewN ?_ _ | refine blk_drew ?_ | refine blk_alloc ?_ _)); refine blk_far ?_ NB220_226.out _; (with_reducible repeat (first | refine blk_drewN ?_ _ | refine blk_drew ?_ | refine blk_alloc ?_ _)); refine blk_far ?_ NB220_226.out _; (with_reducible repeat (first | refine blk_drewN ?_ _ | refine blk_drew ?_ | refine blk_alloc ?_ _)); exact BK220.out)) : gb227 ≠ gb220)); have n10_ := Aside0.mk ((by rw [hg]; exact Nat.ne_of_lt (blk_lt (g := gb221) (o := .cells #[.int .i64 a3_0, .int .i64 a3_1, .int .i64 a3_2] 26 (0, 0)) (by (with_reducible repeat (first | refine blk_drewN ?_ _ | refine blk_drew ?_ | refine blk_alloc ?_ _)); refine blk_far ?_ NB221_226.out _; (with_reducible repeat (first | refine blk_drewN ?_ _ | refine blk_drew ?_ | refine blk_alloc ?_ _)); refine blk_far ?_ NB221_226.out _; (with_reducible repeat (first | refine blk_drewN ?_ _ | refine blk_drew ?_ | refine blk_alloc ?_ _)); refine blk_far ?_ NB221_226.out _; (with_reducible repeat (first | refine blk_drewN ?_ _ | refine blk_drew ?_ | refine blk_alloc ?_ _)); exact BK221.out)) : gb221 ≠ gb227)); have n11_ := Aside0.mk ((by rw [hg]; exact Nat.ne_of_gt (blk_lt (g := gb221) (o := .cells #[.int .i64 a3_0, .int .i64 a3_1, .int .i64 a3_2] 26 (0, 0)) (by (with_reducible repeat (first | refine blk_drewN ?_ _ | refine blk_drew ?_ | refine blk_alloc ?_ _)); refine blk_far ?_ NB221_226.out _; (with_reducible repeat (first | refine blk_drewN ?_ _ | refine blk_drew ?_ | refine blk_alloc ?_ _)); refine blk_far ?_ NB221_226.out _; (with_reducible repeat (first | refine blk_drewN ?_ _ | refine blk_drew ?_ | refine blk_alloc ?_ _)); refine blk_far ?_ NB221_226.out _; (with_reducible repeat (first | refine blk_drewN ?_ _ | refine blk_drew ?_ | refine blk_alloc ?_ _)); exact BK221.out)) : gb227 ≠ gb221)); have n12_ := Aside0.mk ((by rw [hg]; exact Nat.ne_of_lt (blk_lt (g := gb222) (o := .cells #[.int .i64 a4_0, .int .i64 a4_1, .int .i64 a4_2] 26 (0, 0)) (by (with_reducible repeat (first | refine blk_drewN ?_ _ | refine blk_drew ?_ | refine blk_alloc ?_ _)); refine blk_far ?_ NB222_226.out _; (with_reducible repeat (first | refine blk_drewN ?_ _ | refine blk_drew ?_ | refine blk_alloc ?_ _)); refine blk_far ?_ NB222_226.out _; (with_reducible repeat (first | refine blk_drewN ?_ _ | refine blk_drew ?_ | refine blk_alloc ?_ _)); refine blk_far ?_ NB222_226.out _; (with_reducible repeat (first | refine blk_drewN ?_ _ | refine blk_drew ?_ | refine blk_alloc ?_ _)); exact BK222.out)) : gb222 ≠ gb227)); have n13_ := Aside0.mk ((by rw [hg]; exact Nat.ne_of_gt (blk_lt (g := gb222) (o := .cells #[.int .i64 a4_0, .int .i64 a4_1, .int .i64 a4_2] 26 (0, 0)) (by (with_reducible repeat (first | refine blk_drewN ?_ _ | refine blk_drew ?_ | refine blk_alloc ?_ _)); refine blk_far ?_ NB222_226.out _; (with_reducible repeat (first | refine blk_drewN ?_ _ | refine blk_drew ?_ | refine blk_alloc ?_ _)); refine blk_far ?_ NB222_226.out _; (with_reducible repeat (first | refine blk_drewN ?_ _ | refine blk_drew ?_ | refine blk_alloc ?_ _)); refine blk_far ?_ NB222_226.out _; (with_reducible repeat (first | refine blk_drewN ?_ _ | refine blk_drew ?_ | refine blk_alloc ?_ _)); exact BK222.out)) : gb227 ≠ gb222)); have n14_ := Aside0.mk ((by rw [hg]; exact Nat.ne_of_lt (blk_lt (g := gb226) (o := .cells #[.int .i64 a3_0, .int .i64 (Go.bits .and .i64 a3_1 3), .int .i64 0] 26 (0, 0)) (by (with_reducible repeat (first | refine blk_drewN ?_ _ | refine blk_drew ?_ | refine blk_alloc ?_ _)); refine blk_put (cs := #[.int .i64 a3_0, .int .i64 (Go.bits .and .i64 a3_1 3), .int .i64 0]) ?_ 2 _ rfl; (with_reducible repeat (first | refine blk_drewN ?_ _ | refine blk_drew ?_ | refine blk_alloc ?_ _)); refine blk_put (cs := #[.int .i64 a3_0, .int .i64 0, .int .i64 0]) ?_ 1 _ rfl; (with_reducible repeat (first | refine blk_drewN ?_ _ | refine blk_drew ?_ | refine blk_alloc ?_ _)); refine blk_put (cs := #[.int .i64 0, .int .i64 0, .int .i64 0]) ?_ 0 _ rfl; (with_reducible repeat (first | refine blk_drewN ?_ _ | refine blk_drew ?_ | refine blk_alloc ?_ _)); exact BK226.out)) : gb226 ≠ gb227)); have n15_ := Aside0.mk ((by rw [hg]; exact Nat.ne_of_gt (blk_lt (g := gb226) (o := .cells #[.int .i64 a3_0, .int .i64 (Go.bits .and .i64 a3_1 3), .int .i64 0] 26 (0, 0)) (by (with_reducible repeat (first | refine blk_drewN ?_ _ | refine blk_drew ?_ | refine blk_alloc ?_ _)); refine blk_put (cs := #[.int .i64 a3_0, .int .i64 (Go.bits .and .i64 a3_1 3), .int .i64 0]) ?_ 2 _ rfl; (with_reducible repeat (first | refine blk_drewN ?_ _ | refine blk_drew ?_ | refine blk_alloc ?_ _)); refine blk_put (cs := #[.int .i64 a3_0, .int .i64 0, .int .i64 0]) ?_ 1 _ rfl; (with_reducible repeat (first | refine blk_drewN ?_ _ | refine blk_drew ?_ | refine blk_alloc ?_ _)); refine blk_put (cs := #[.int .i64 0, .int .i64 0, .int .i64 0]) ?_ 0 _ rfl; (with_reducible repeat (first | refine blk_drewN ?_ _ | refine blk_drew ?_ | refine blk_alloc ?_ _)); exact BK226.out)) : gb227 ≠ gb226)); clear BK220; clear BK221; clear BK222; clear BK226; clear HB; have BK220 := n0_; have BK221 := n1_; have BK222 := n2_; have BK226 := n3_; have HB := n4_; have BK227 := n5_; have GW227 := n6_; have GE227 := n7_; have NB220_227 := n8_; have NB227_220 := n9_; have NB221_227 := n10_; have NB227_221 := n11_; have NB222_227 := n12_; have NB227_222 := n13_; have NB226_227 := n14_; have NB227_226 := n15_; clear n0_ n1_ n2_ n3_ n4_ n5_ n6_ n7_ n8_ n9_ n10_ n11_ n12_ n13_ n14_ n15_; clear hb hbox hg; have hnb59 := NB227_220.out; have hnc59 := NB220_227.out; have hnb60 := NB227_221.out; have hnc60 := NB221_227.out; have hnb61 := NB227_222.out; have hnc61 := NB222_227.out; have hnb62 := NB227_226.out; have hnc62 := NB226_227.out; have hcz63_0 : w58.cell? ⟨gb227, 0, none⟩ = some (.int .i64 0) := (blk_cell BK227.out 0).trans rfl; have hcz63_1 : w58.cell? ⟨gb227, 1, none⟩ = some (.int .i64 0) := (blk_cell BK227.out 1).trans rfl; have hcz63_2 : w58.cell? ⟨gb227, 2, none⟩ = some (.int .i64 0) := (blk_cell BK227.out 2).trans rfl; have hfz63_0 := blk_frozen BK227.out 0; have hfz63_1 := blk_frozen BK227.out 1; have hfz63_2 := blk_frozen BK227.out 2; have hcz64_0 := blk_cell BK220.out; have hfz64_0 := blk_frozen BK220.out; have hcz65_0 : w58.cell? ⟨gb226, 0, none⟩ = some (.int .i64 a3_0) := (blk_cell BK226.out 0).trans rfl; have hcz65_1 : w58.cell? ⟨gb226, 1, none⟩ = some (.int .i64 (Go.bits .and .i64 a3_1 3)) := (blk_cell BK226.out 1).trans rfl; have hcz65_2 : w58.cell? ⟨gb226, 2, none⟩ = some (.int .i64 0) := (blk_cell BK226.out 2).trans rfl; have hfz65_0 := blk_frozen BK226.out 0; have hfz65_1 := blk_frozen BK226.out 1; have hfz65_2 := blk_frozen BK226.out 2) | ((with_reducible refine gate_callee (f := 13) rfl ?_); refine goesL_ (some 106) rfl rfl Try.func13 (by kernel_rfl) rfl #[.agg #[.int .i64 a0_0, .int .i64 a0_1, .int .i64 a0_2, .int .i64 a0_3, .slice A0_4 l0_4.length c0_4, .int .i64 a0_5, .int .i64 a0_6, .int .i64 a0_7, .int .i64 a0_8, .int .i64 a0_9, .int .i64 a0_10, .int .i64 a0_11, .int .i64 a0_12, .int .i64 a0_13, .int .i64 a0_14, .int .i64 a0_15, .int .i64 a0_16, .int .i64 a0_17, .int .i64 0, .int .i64 0, .int .i64 a0_20], .agg #[.int .i64 a3_0, .int .i64 (Go.bits .and .i64 a3_1 3), .int .i64 0], .agg #[.int .i64 a4_0, .int .i64 (Go.bits .and .i64 a4_1 3), .int .i64 0], .int .i64 (wrap64 (a5))] rfl (by (try simp only [List.map_toArray, List.map_cons, List.map_nil]); first | done | rfl | (simp only [List.length_drop, List.length_take]; rfl)) ?_; (with_reducible refine (dem_Pair.calls kj38 a0_0 a0_1 a0_2 a0_3 _ _ l0_4 a0_5 a0_6 a0_7 a0_8 a0_9 a0_10 a0_11 a0_12 a0_13 a0_14 a0_15 a0_16 a0_17 0 0 a0_20 a3_0 (Go.bits .and .i64 a3_1 3) 0 a4_0 (Go.bits .and .i64 a4_1 3) 0 (wrap64 (a5)) t228 _ ?side1 ?side2 A46.out).mono ?_); (case side1 => exact Kd.C_below HR0_4.out (by repeat (first | (with_reducible first | exact HB.out | apply below_alloc | apply pw_below_drewN | apply below_drew1 | refine below_set ?_ GE220.out | refine below_set ?_ GE221.out | refine below_set ?_ GE222.out | refine below_set ?_ GE226.out | refine below_set ?_ GE227.out) | exact HB.out))); (case side2 => exact HC0_4.out); rintro e w66 ⟨rfl, hb⟩; refine ⟨_, rfl, ?_⟩; have n0_ := Aside0.mk (blk_below (g := gb220) (o := .cells #[.int .i64 a0_0, .int .i64 a0_1, .int .i64 a0_2, .int .i64 a0_3, .slice A0_4 l0_4.length c0_4, .int .i64 a0_5, .int .i64 a0_6, .int .i64 a0_7, .int .i64 a0_8, .int .i64 a0_9, .int .i64 a0_10, .int .i64 a0_11, .int .i64 a0_12, .int .i64 a0_13, .int .i64 a0_14, .int .i64 a0_15, .int .i64 a0_16, .int .i64 a0_17, .int .i64 0, .int .i64 0, .int .i64 a0_20] 24 (0, 0)) (by (with_reducible repeat (first | refine blk_drewN ?_ _ | refine blk_drew ?_ | refine blk_alloc ?_ _)); refine blk_far ?_ NB220_227.out _; (with_reducible repeat (first | refine blk_drewN ?_ _ | refine blk_drew ?_ | refine blk_alloc ?_ _)); refine blk_far ?_ NB220_227.out _; (with_reducible repeat (first | refine blk_drewN ?_ _ | refine blk_drew ?_ | refine blk_alloc ?_ _)); refine blk_far ?_ NB220_227.out _; (with_reducible repeat (first | refine blk_drewN ?_ _ | refine blk_drew ?_ | refine blk_alloc ?_ _)); exact BK220.out) hb); have n1_ := Aside0.mk (blk_below (g := gb221) (o := .cells #[.int .i64 a3_0, .int .i64 a3_1, .int .i64 a3_2] 26 (0, 0)) (by (with_reducible repeat (first | refine blk_drewN ?_ _ | refine blk_drew ?_ | refine blk_alloc ?_ _)); refine blk_far ?_ NB221_227.out _; (with_reducible repeat (first | refine blk_drewN ?_ _ | refine blk_drew ?_ | refine blk_alloc ?_ _)); refine blk_far ?_ NB221_227.out _; (with_reducible repeat (first | refine blk_drewN ?_ _ | refine blk_drew ?_ | refine blk_alloc ?_ _)); refine blk_far ?_ NB221_227.out _; (with_reducible repeat (first | refine blk_drewN ?_ _ | refine blk_drew ?_ | refine blk_alloc ?_ _)); exact BK221.out) hb); have n2_ := Aside0.mk (blk_below (g := gb222) (o := .cells #[.int .i64 a4_0, .int .i64 a4_1, .int .i64 a4_2] 26 (0, 0)) (by (with_reducible repeat (first | refine blk_drewN ?_ _ | refine blk_drew ?_ | refine blk_alloc ?_ _)); refine blk_far ?_ NB222_227.out _; (with_reducible repeat (first | refine blk_drewN ?_ _ | refine blk_drew ?_ | refine blk_alloc ?_ _)); refine blk_far ?_ NB222_227.out _; (with_reducible repeat (first | refine blk_drewN ?_ _ | refine blk_drew ?_ | refine blk_alloc ?_ _)); refine blk_far ?_ NB222_227.out _; (with_reducible repeat (first | refine blk_drewN ?_ _ | refine blk_drew ?_ | refine blk_alloc ?_ _)); exact BK222.out) hb); have n3_ := Aside0.mk (blk_below (g := gb226) (o := .cells #[.int .i64 a3_0, .int .i64 (Go.bits .and .i64 a3_1 3), .int .i64 0] 26 (0, 0)) (by (with_reducible repeat (first | refine blk_drewN ?_ _ | refine blk_drew ?_ | refine blk_alloc ?_ _)); refine blk_far ?_ NB226_227.out _; (with_reducible repeat (first | refine blk_drewN ?_ _ | refine blk_drew ?_ | refine blk_alloc ?_ _)); refine blk_far ?_ NB226_227.out _; (with_reducible repeat (first | refine blk_drewN ?_ _ | refine blk_drew ?_ | refine blk_alloc ?_ _)); refine blk_far ?_ NB226_227.out _; (with_reducible repeat (first | refine blk_drewN ?_ _ | refine blk_drew ?_ | refine blk_alloc ?_ _)); exact BK226.out) hb); have n4_ := Aside0.mk (blk_below (g := gb227) (o := .cells #[.int .i64 a4_0, .int .i64 (Go.bits .and .i64 a4_1 3), .int .i64 0] 26 (0, 0)) (by (with_reducible repeat (first | refine blk_drewN ?_ _ | refine blk_drew ?_ | refine blk_alloc ?_ _)); refine blk_put (cs := #[.int .i64 a4_0, .int .i64 (Go.bits .and .i64 a4_1 3), .int .i64 0]) ?_ 2 _ rfl; (with_reducible repeat (first | refine blk_drewN ?_ _ | refine blk_drew ?_ | refine blk_alloc ?_ _)); refine blk_put (cs := #[.int .i64 a4_0, .int .i64 0, .int .i64 0]) ?_ 1 _ rfl; (with_reducible repeat (first | refine blk_drewN ?_ _ | refine blk_drew ?_ | refine blk_alloc ?_ _)); refine blk_put (cs := #[.int .i64 0, .int .i64 0, .int .i64 0]) ?_ 0 _ rfl; (with_reducible repeat (first | refine blk_drewN ?_ _ | refine blk_drew ?_ | refine blk_alloc ?_ _)); exact BK227.out) hb); have n5_ := Aside0.mk (below_step (by repeat (first | (with_reducible first | exact HB.out | apply below_alloc | apply pw_below_drewN | apply below_drew1 | refine below_set ?_ GE220.out | refine below_set ?_ GE221.out | refine below_set ?_ GE222.out | refine below_set ?_ GE226.out | refine below_set ?_ GE227.out) | exact HB.out)) hb); clear BK220; clear BK221; clear BK222; clear BK226; clear BK227; clear HB; have BK220 := n0_; have BK221 := n1_; have BK222 := n2_; have BK226 := n3_; have BK227 := n4_; have HB := n5_; clear n0_ n1_ n2_ n3_ n4_ n5_; (try clear hb); (try clear hb2); (try clear hk); (try clear hi)))
            (try simp only [Act.put, List.setIfInBounds_toArray, List.set_cons_zero, List.set_cons_succ])
            go_cut [22] (fun v22 wc => ∃ (kq : Nat) (x22_46 : Bool), v22 = .bool x22_46 ∧ Aside0 (compositorlaw21_DemPlain.j5 kq t223 x18_38 t228 x22_46 a0_0 a0_1 a0_2 a0_3 l0_4 a0_5 a0_6 a0_7 a0_8 a0_9 a0_10 a0_11 a0_12 a0_13 a0_14 a0_15 a0_16 a0_17 0 0 a0_20 a3_0 (Go.bits .and .i64 a3_1 3) 0 a4_0 (Go.bits .and .i64 a4_1 3) 0 = some r) ∧ Aside0 (kq ≤ kj38) ∧ Aside0 (wc.heap[gb220]? = some (.cells #[.int .i64 a0_0, .int .i64 a0_1, .int .i64 a0_2, .int .i64 a0_3, (.slice A0_4 l0_4.length c0_4), .int .i64 a0_5, .int .i64 a0_6, .int .i64 a0_7, .int .i64 a0_8, .int .i64 a0_9, .int .i64 a0_10, .int .i64 a0_11, .int .i64 a0_12, .int .i64 a0_13, .int .i64 a0_14, .int .i64 a0_15, .int .i64 a0_16, .int .i64 a0_17, .int .i64 0, .int .i64 0, .int .i64 a0_20] 24 (0, 0))) ∧ Aside0 (wc.heap[gb221]? = some (.cells #[.int .i64 a3_0, .int .i64 a3_1, .int .i64 a3_2] 26 (0, 0))) ∧ Aside0 (wc.heap[gb222]? = some (.cells #[.int .i64 a4_0, .int .i64 a4_1, .int .i64 a4_2] 26 (0, 0))) ∧ Aside0 (wc.heap[gb226]? = some (.cells #[.int .i64 a3_0, .int .i64 (Go.bits .and .i64 a3_1 3), .int .i64 0] 26 (0, 0))) ∧ Aside0 (wc.heap[gb227]? = some (.cells #[.int .i64 a4_0, .int .i64 (Go.bits .and .i64 a4_1 3), .int .i64 0] 26 (0, 0))) ∧ Aside0 (Below w.heap.size w wc))
            case first => as_aux_lemma =>
             have H := HC47.out
             clear HC47
             by_cases c67 : a3_0 = 2
             ·rw [if_pos c67] at H
              have c67b0 : (a3_0 == 2) = true := beq_iff_eq.mpr c67
              have c67b1 : (a3_0 != 2) = false := bne_eq_false_iff_eq.mpr c67
              clear c67
              (first | rw [c67b0] | (simp only [i64_w, i32_w]; rw [c67b0]) | skip)
              have H' := Aside0.mk H
              clear H
              have hnb68 := NB226_220.out
              have hnc68 := NB220_226.out
              have hnb69 := NB226_221.out
              have hnc69 := NB221_226.out
              have hnb70 := NB226_222.out
              have hnc70 := NB222_226.out
              have hnb71 := NB226_227.out
              have hnc71 := NB227_226.out
              have hcz72_0 : w66.cell? ⟨gb226, 0, none⟩ = some (.int .i64 a3_0) := (blk_cell BK226.out 0).trans rfl
              have hcz72_1 : w66.cell? ⟨gb226, 1, none⟩ = some (.int .i64 (Go.bits .and .i64 a3_1 3)) := (blk_cell BK226.out 1).trans rfl
              have hcz72_2 : w66.cell? ⟨gb226, 2, none⟩ = some (.int .i64 0) := (blk_cell BK226.out 2).trans rfl
              have hfz72_0 := blk_frozen BK226.out 0
              have hfz72_1 := blk_frozen BK226.out 1
              have hfz72_2 := blk_frozen BK226.out 2
              go_wp2
              go_meet
              case rel => exact ⟨_, (true), (by first | rfl | (simp; done) | (simp [*]; done)), H', ⟨by have := HJ7.out; have := HJ25.out; have := HJ27.out; have := HJ32.out; have := HJ38.out; first | omega | exact Nat.le_refl _⟩, ⟨by (with_reducible repeat (first | refine blk_drewN ?_ _ | refine blk_drew ?_ | refine blk_alloc ?_ _)); exact BK220.out⟩, ⟨by (with_reducible repeat (first | refine blk_drewN ?_ _ | refine blk_drew ?_ | refine blk_alloc ?_ _)); exact BK221.out⟩, ⟨by (with_reducible repeat (first | refine blk_drewN ?_ _ | refine blk_drew ?_ | refine blk_alloc ?_ _)); exact BK222.out⟩, ⟨by (with_reducible repeat (first | refine blk_drewN ?_ _ | refine blk_drew ?_ | refine blk_alloc ?_ _)); exact BK226.out⟩, ⟨by (with_reducible repeat (first | refine blk_drewN ?_ _ | refine blk_drew ?_ | refine blk_alloc ?_ _)); exact BK227.out⟩, ⟨by repeat (first | (with_reducible first | exact HB.out | apply below_alloc | apply pw_below_drewN | apply below_drew1 | refine below_set ?_ GE220.out | refine below_set ?_ GE221.out | refine below_set ?_ GE222.out | refine below_set ?_ GE226.out | refine below_set ?_ GE227.out) | exact HB.out)⟩⟩
             ·rw [if_neg c67] at H
              have c67b0 : (a3_0 == 2) = false := beq_eq_false_iff_ne.mpr c67
              have c67b1 : (a3_0 != 2) = true := bne_iff_ne.mpr c67
              (first | rw [c67b0] | (simp only [i64_w, i32_w]; rw [c67b0]) | skip)
              have H' := Aside0.mk H
              clear H
              have hnb73 := NB226_220.out
              have hnc73 := NB220_226.out
              have hnb74 := NB226_221.out
              have hnc74 := NB221_226.out
              have hnb75 := NB226_222.out
              have hnc75 := NB222_226.out
              have hnb76 := NB226_227.out
              have hnc76 := NB227_226.out
              have hcz77_0 : w66.cell? ⟨gb226, 0, none⟩ = some (.int .i64 a3_0) := (blk_cell BK226.out 0).trans rfl
              have hcz77_1 : w66.cell? ⟨gb226, 1, none⟩ = some (.int .i64 (Go.bits .and .i64 a3_1 3)) := (blk_cell BK226.out 1).trans rfl
              have hcz77_2 : w66.cell? ⟨gb226, 2, none⟩ = some (.int .i64 0) := (blk_cell BK226.out 2).trans rfl
              have hfz77_0 := blk_frozen BK226.out 0
              have hfz77_1 := blk_frozen BK226.out 1
              have hfz77_2 := blk_frozen BK226.out 2
              go_wp2
              go_meet
              case rel => exact ⟨_, ((a3_0 == 3)), (by first | rfl | (simp; done) | (simp [*]; done)), H', ⟨by have := HJ7.out; have := HJ25.out; have := HJ27.out; have := HJ32.out; have := HJ38.out; first | omega | exact Nat.le_refl _⟩, ⟨by (with_reducible repeat (first | refine blk_drewN ?_ _ | refine blk_drew ?_ | refine blk_alloc ?_ _)); exact BK220.out⟩, ⟨by (with_reducible repeat (first | refine blk_drewN ?_ _ | refine blk_drew ?_ | refine blk_alloc ?_ _)); exact BK221.out⟩, ⟨by (with_reducible repeat (first | refine blk_drewN ?_ _ | refine blk_drew ?_ | refine blk_alloc ?_ _)); exact BK222.out⟩, ⟨by (with_reducible repeat (first | refine blk_drewN ?_ _ | refine blk_drew ?_ | refine blk_alloc ?_ _)); exact BK226.out⟩, ⟨by (with_reducible repeat (first | refine blk_drewN ?_ _ | refine blk_drew ?_ | refine blk_alloc ?_ _)); exact BK227.out⟩, ⟨by repeat (first | (with_reducible first | exact HB.out | apply below_alloc | apply pw_below_drewN | apply below_drew1 | refine below_set ?_ GE220.out | refine below_set ?_ GE221.out | refine below_set ?_ GE222.out | refine below_set ?_ GE226.out | refine below_set ?_ GE227.out) | exact HB.out)⟩⟩
            case rest => as_aux_lemma =>
             clear HC47
             try clear c1
             try clear c2
             try clear p2
             try clear c3
             try clear c4
             try clear c5
             try clear c6
             try clear p6
             try clear c7
             try clear c8
             try clear c9
             try clear c13
             try clear c14
             try clear c16
             try clear c16b0
             try clear c16b1
             try clear c17
             try clear c18
             try clear c21
             try clear c22
             try clear c25
             try clear c27
             try clear c27b0
             try clear c27b1
             try clear c27b2
             try clear c29
             try clear c30
             try clear c31
             try clear c34
             try clear c34b0
             try clear c34b1
             try clear c34b2
             try clear c35
             try clear c36
             try clear c42
             try clear c42b0
             try clear c43
             try clear c43b0
             try clear c43b1
             try clear c43b2
             try clear c44
             try clear c44b0
             try clear c45
             try clear c45b0
             try clear c48
             try clear c49
             try clear c52
             try clear c53
             try clear c54
             try clear c56
             try clear c59
             try clear c60
             try clear c61
             try clear c62
             try clear p64
             try clear c67
             try clear c67b0
             try clear c67b1
             try clear c68
             try clear c69
             try clear c70
             try clear c71
             try clear c73
             try clear c74
             try clear c75
             try clear c76
             try clear hcz15_0
             try clear hcz15_1
             try clear hcz15_10
             try clear hcz15_11
             try clear hcz15_12
             try clear hcz15_13
             try clear hcz15_14
             try clear hcz15_15
             try clear hcz15_16
             try clear hcz15_17
             try clear hcz15_18
             try clear hcz15_19
             try clear hcz15_2
             try clear hcz15_20
             try clear hcz15_3
             try clear hcz15_4
             try clear hcz15_5
             try clear hcz15_6
             try clear hcz15_7
             try clear hcz15_8
             try clear hcz15_9
             try clear hcz19_0
             try clear hcz19_1
             try clear hcz19_10
             try clear hcz19_11
             try clear hcz19_12
             try clear hcz19_13
             try clear hcz19_14
             try clear hcz19_15
             try clear hcz19_16
             try clear hcz19_17
             try clear hcz19_18
             try clear hcz19_19
             try clear hcz19_2
             try clear hcz19_20
             try clear hcz19_3
             try clear hcz19_4
             try clear hcz19_5
             try clear hcz19_6
             try clear hcz19_7
             try clear hcz19_8
             try clear hcz19_9
             try clear hcz23_0
             try clear hcz23_1
             try clear hcz23_10
             try clear hcz23_11
             try clear hcz23_12
             try clear hcz23_13
             try clear hcz23_14
             try clear hcz23_15
             try clear hcz23_16
             try clear hcz23_17
             try clear hcz23_18
             try clear hcz23_19
             try clear hcz23_2
             try clear hcz23_20
             try clear hcz23_3
             try clear hcz23_4
             try clear hcz23_5
             try clear hcz23_6
             try clear hcz23_7
             try clear hcz23_8
             try clear hcz23_9
             try clear hcz32_0
             try clear hcz32_1
             try clear hcz32_10
             try clear hcz32_11
             try clear hcz32_12
             try clear hcz32_13
             try clear hcz32_14
             try clear hcz32_15
             try clear hcz32_16
             try clear hcz32_17
             try clear hcz32_18
             try clear hcz32_19
             try clear hcz32_2
             try clear hcz32_20
             try clear hcz32_3
             try clear hcz32_4
             try clear hcz32_5
             try clear hcz32_6
             try clear hcz32_7
             try clear hcz32_8
             try clear hcz32_9
             try clear hcz37_0
             try clear hcz37_1
             try clear hcz37_10
             try clear hcz37_11
             try clear hcz37_12
             try clear hcz37_13
             try clear hcz37_14
             try clear hcz37_15
             try clear hcz37_16
             try clear hcz37_17
             try clear hcz37_18
             try clear hcz37_19
             try clear hcz37_2
             try clear hcz37_20
             try clear hcz37_3
             try clear hcz37_4
             try clear hcz37_5
             try clear hcz37_6
             try clear hcz37_7
             try clear hcz37_8
             try clear hcz37_9
             try clear hcz50_0
             try clear hcz50_1
             try clear hcz50_2
             try clear hcz55_0
             try clear hcz55_1
             try clear hcz55_2
             try clear hcz57_0
             try clear hcz57_1
             try clear hcz57_2
             try clear hcz63_0
             try clear hcz63_1
             try clear hcz63_2
             try clear hcz64_0
             try clear hcz64_1
             try clear hcz64_10
             try clear hcz64_11
             try clear hcz64_12
             try clear hcz64_13
             try clear hcz64_14
             try clear hcz64_15
             try clear hcz64_16
             try clear hcz64_17
             try clear hcz64_18
             try clear hcz64_19
             try clear hcz64_2
             try clear hcz64_20
             try clear hcz64_3
             try clear hcz64_4
             try clear hcz64_5
             try clear hcz64_6
             try clear hcz64_7
             try clear hcz64_8
             try clear hcz64_9
             try clear hcz65_0
             try clear hcz65_1
             try clear hcz65_2
             try clear hcz72_0
             try clear hcz72_1
             try clear hcz72_2
             try clear hcz77_0
             try clear hcz77_1
             try clear hcz77_2
             try clear hfz15_0
             try clear hfz15_1
             try clear hfz15_10
             try clear hfz15_11
             try clear hfz15_12
             try clear hfz15_13
             try clear hfz15_14
             try clear hfz15_15
             try clear hfz15_16
             try clear hfz15_17
             try clear hfz15_18
             try clear hfz15_19
             try clear hfz15_2
             try clear hfz15_20
             try clear hfz15_3
             try clear hfz15_4
             try clear hfz15_5
             try clear hfz15_6
             try clear hfz15_7
             try clear hfz15_8
             try clear hfz15_9
             try clear hfz19_0
             try clear hfz19_1
             try clear hfz19_10
             try clear hfz19_11
             try clear hfz19_12
             try clear hfz19_13
             try clear hfz19_14
             try clear hfz19_15
             try clear hfz19_16
             try clear hfz19_17
             try clear hfz19_18
             try clear hfz19_19
             try clear hfz19_2
             try clear hfz19_20
             try clear hfz19_3
             try clear hfz19_4
             try clear hfz19_5
             try clear hfz19_6
             try clear hfz19_7
             try clear hfz19_8
             try clear hfz19_9
             try clear hfz23_0
             try clear hfz23_1
             try clear hfz23_10
             try clear hfz23_11
             try clear hfz23_12
             try clear hfz23_13
             try clear hfz23_14
             try clear hfz23_15
             try clear hfz23_16
             try clear hfz23_17
             try clear hfz23_18
             try clear hfz23_19
             try clear hfz23_2
             try clear hfz23_20
             try clear hfz23_3
             try clear hfz23_4
             try clear hfz23_5
             try clear hfz23_6
             try clear hfz23_7
             try clear hfz23_8
             try clear hfz23_9
             try clear hfz32_0
             try clear hfz32_1
             try clear hfz32_10
             try clear hfz32_11
             try clear hfz32_12
             try clear hfz32_13
             try clear hfz32_14
             try clear hfz32_15
             try clear hfz32_16
             try clear hfz32_17
             try clear hfz32_18
             try clear hfz32_19
             try clear hfz32_2
             try clear hfz32_20
             try clear hfz32_3
             try clear hfz32_4
             try clear hfz32_5
             try clear hfz32_6
             try clear hfz32_7
             try clear hfz32_8
             try clear hfz32_9
             try clear hfz37_0
             try clear hfz37_1
             try clear hfz37_10
             try clear hfz37_11
             try clear hfz37_12
             try clear hfz37_13
             try clear hfz37_14
             try clear hfz37_15
             try clear hfz37_16
             try clear hfz37_17
             try clear hfz37_18
             try clear hfz37_19
             try clear hfz37_2
             try clear hfz37_20
             try clear hfz37_3
             try clear hfz37_4
             try clear hfz37_5
             try clear hfz37_6
             try clear hfz37_7
             try clear hfz37_8
             try clear hfz37_9
             try clear hfz50_0
             try clear hfz50_1
             try clear hfz50_2
             try clear hfz55_0
             try clear hfz55_1
             try clear hfz55_2
             try clear hfz57_0
             try clear hfz57_1
             try clear hfz57_2
             try clear hfz63_0
             try clear hfz63_1
             try clear hfz63_2
             try clear hfz64_0
             try clear hfz64_1
             try clear hfz64_10
             try clear hfz64_11
             try clear hfz64_12
             try clear hfz64_13
             try clear hfz64_14
             try clear hfz64_15
             try clear hfz64_16
             try clear hfz64_17
             try clear hfz64_18
             try clear hfz64_19
             try clear hfz64_2
             try clear hfz64_20
             try clear hfz64_3
             try clear hfz64_4
             try clear hfz64_5
             try clear hfz64_6
             try clear hfz64_7
             try clear hfz64_8
             try clear hfz64_9
             try clear hfz65_0
             try clear hfz65_1
             try clear hfz65_2
             try clear hfz72_0
             try clear hfz72_1
             try clear hfz72_2
             try clear hfz77_0
             try clear hfz77_1
             try clear hfz77_2
             try clear p2
             try clear p6
             obtain ⟨kq, x22_46, rfl, HA, HJ46, BK220, BK221, BK222, BK226, BK227, HB⟩ := hcut
             cases kq with
             | zero => exact absurd HA.out (by simp [compositorlaw21_DemPlain.j5])
             | succ kj46 =>
              have H := HA.out
              clear HA
              simp only [compositorlaw21_DemPlain.j5] at H
              have HC78 := Aside0.mk H
              clear H
              go_upto_region 19 with (fail)
              go_cut [128] (fun v128 wc => ∃ (kq : Nat) (x128_77 : Bool), v128 = .bool x128_77 ∧ Aside0 (compositorlaw21_DemPlain.j6 kq t223 x18_38 t228 x22_46 x128_77 a0_0 a0_1 a0_2 a0_3 l0_4 a0_5 a0_6 a0_7 a0_8 a0_9 a0_10 a0_11 a0_12 a0_13 a0_14 a0_15 a0_16 a0_17 0 0 a0_20 a4_0 (Go.bits .and .i64 a4_1 3) 0 = some r) ∧ Aside0 (kq ≤ kj46) ∧ Aside0 (wc.heap[gb220]? = some (.cells #[.int .i64 a0_0, .int .i64 a0_1, .int .i64 a0_2, .int .i64 a0_3, (.slice A0_4 l0_4.length c0_4), .int .i64 a0_5, .int .i64 a0_6, .int .i64 a0_7, .int .i64 a0_8, .int .i64 a0_9, .int .i64 a0_10, .int .i64 a0_11, .int .i64 a0_12, .int .i64 a0_13, .int .i64 a0_14, .int .i64 a0_15, .int .i64 a0_16, .int .i64 a0_17, .int .i64 0, .int .i64 0, .int .i64 a0_20] 24 (0, 0))) ∧ Aside0 (wc.heap[gb221]? = some (.cells #[.int .i64 a3_0, .int .i64 a3_1, .int .i64 a3_2] 26 (0, 0))) ∧ Aside0 (wc.heap[gb222]? = some (.cells #[.int .i64 a4_0, .int .i64 a4_1, .int .i64 a4_2] 26 (0, 0))) ∧ Aside0 (wc.heap[gb226]? = some (.cells #[.int .i64 a3_0, .int .i64 (Go.bits .and .i64 a3_1 3), .int .i64 0] 26 (0, 0))) ∧ Aside0 (wc.heap[gb227]? = some (.cells #[.int .i64 a4_0, .int .i64 (Go.bits .and .i64 a4_1 3), .int .i64 0] 26 (0, 0))) ∧ Aside0 (Below w.heap.size w wc))
              case first => as_aux_lemma =>
               have H := HC78.out
               clear HC78
               by_cases c79 : (wrap64 ((Go.bits .and .i64 a3_1 3) - (Go.bits .and .i64 a4_1 3))) > 1
               ·rw [if_pos c79] at H
                have c79b0 : decide (1 < (wrap64 ((Go.bits .and .i64 a3_1 3) - (Go.bits .and .i64 a4_1 3)))) = true := decide_eq_true c79
                (try (have c79b1 : decide (1 < (IntKind.i64.wrap ((Go.bits .and .i64 a3_1 3) - (Go.bits .and .i64 a4_1 3)))) = true := by simp only [i64_w]; exact (decide_eq_true c79)))
                clear c79
                (first | rw [c79b0] | (simp only [i64_w, i32_w]; rw [c79b0]) | skip)
                have H' := Aside0.mk H
                clear H
                have hnb80 := NB226_220.out
                have hnc80 := NB220_226.out
                have hnb81 := NB226_221.out
                have hnc81 := NB221_226.out
                have hnb82 := NB226_222.out
                have hnc82 := NB222_226.out
                have hnb83 := NB226_227.out
                have hnc83 := NB227_226.out
                have hcz84_0 : wc.cell? ⟨gb226, 0, none⟩ = some (.int .i64 a3_0) := (blk_cell BK226.out 0).trans rfl
                have hcz84_1 : wc.cell? ⟨gb226, 1, none⟩ = some (.int .i64 (Go.bits .and .i64 a3_1 3)) := (blk_cell BK226.out 1).trans rfl
                have hcz84_2 : wc.cell? ⟨gb226, 2, none⟩ = some (.int .i64 0) := (blk_cell BK226.out 2).trans rfl
                have hfz84_0 := blk_frozen BK226.out 0
                have hfz84_1 := blk_frozen BK226.out 1
                have hfz84_2 := blk_frozen BK226.out 2
                have hnb85 := NB227_220.out
                have hnc85 := NB220_227.out
                have hnb86 := NB227_221.out
                have hnc86 := NB221_227.out
                have hnb87 := NB227_222.out
                have hnc87 := NB222_227.out
                have hcz88_0 : wc.cell? ⟨gb227, 0, none⟩ = some (.int .i64 a4_0) := (blk_cell BK227.out 0).trans rfl
                have hcz88_1 : wc.cell? ⟨gb227, 1, none⟩ = some (.int .i64 (Go.bits .and .i64 a4_1 3)) := (blk_cell BK227.out 1).trans rfl
                have hcz88_2 : wc.cell? ⟨gb227, 2, none⟩ = some (.int .i64 0) := (blk_cell BK227.out 2).trans rfl
                have hfz88_0 := blk_frozen BK227.out 0
                have hfz88_1 := blk_frozen BK227.out 1
                have hfz88_2 := blk_frozen BK227.out 2
                go_wp2
                go_meet
                case rel => exact ⟨_, (true), (by first | rfl | (simp; done) | (simp [*]; done)), H', ⟨by have := HJ7.out; have := HJ25.out; have := HJ27.out; have := HJ32.out; have := HJ38.out; have := HJ46.out; first | omega | exact Nat.le_refl _⟩, ⟨by (with_reducible repeat (first | refine blk_drewN ?_ _ | refine blk_drew ?_ | refine blk_alloc ?_ _)); exact BK220.out⟩, ⟨by (with_reducible repeat (first | refine blk_drewN ?_ _ | refine blk_drew ?_ | refine blk_alloc ?_ _)); exact BK221.out⟩, ⟨by (with_reducible repeat (first | refine blk_drewN ?_ _ | refine blk_drew ?_ | refine blk_alloc ?_ _)); exact BK222.out⟩, ⟨by (with_reducible repeat (first | refine blk_drewN ?_ _ | refine blk_drew ?_ | refine blk_alloc ?_ _)); exact BK226.out⟩, ⟨by (with_reducible repeat (first | refine blk_drewN ?_ _ | refine blk_drew ?_ | refine blk_alloc ?_ _)); exact BK227.out⟩, ⟨by repeat (first | (with_reducible first | exact HB.out | apply below_alloc | apply pw_below_drewN | apply below_drew1 | refine below_set ?_ GE220.out | refine below_set ?_ GE221.out | refine below_set ?_ GE222.out | refine below_set ?_ GE226.out | refine below_set ?_ GE227.out) | exact HB.out)⟩⟩
               ·rw [if_neg c79] at H
                have c79b0 : decide (1 < (wrap64 ((Go.bits .and .i64 a3_1 3) - (Go.bits .and .i64 a4_1 3)))) = false := decide_eq_false c79
                (try (have c79b1 : decide (1 < (IntKind.i64.wrap ((Go.bits .and .i64 a3_1 3) - (Go.bits .and .i64 a4_1 3)))) = false := by simp only [i64_w]; exact (decide_eq_false c79)))
                clear c79
                (first | rw [c79b0] | (simp only [i64_w, i32_w]; rw [c79b0]) | skip)
                have H' := Aside0.mk H
                clear H
                have hnb89 := NB226_220.out
                have hnc89 := NB220_226.out
                have hnb90 := NB226_221.out
                have hnc90 := NB221_226.out
                have hnb91 := NB226_222.out
                have hnc91 := NB222_226.out
                have hnb92 := NB226_227.out
                have hnc92 := NB227_226.out
                have hcz93_0 : wc.cell? ⟨gb226, 0, none⟩ = some (.int .i64 a3_0) := (blk_cell BK226.out 0).trans rfl
                have hcz93_1 : wc.cell? ⟨gb226, 1, none⟩ = some (.int .i64 (Go.bits .and .i64 a3_1 3)) := (blk_cell BK226.out 1).trans rfl
                have hcz93_2 : wc.cell? ⟨gb226, 2, none⟩ = some (.int .i64 0) := (blk_cell BK226.out 2).trans rfl
                have hfz93_0 := blk_frozen BK226.out 0
                have hfz93_1 := blk_frozen BK226.out 1
                have hfz93_2 := blk_frozen BK226.out 2
                have hnb94 := NB227_220.out
                have hnc94 := NB220_227.out
                have hnb95 := NB227_221.out
                have hnc95 := NB221_227.out
                have hnb96 := NB227_222.out
                have hnc96 := NB222_227.out
                have hcz97_0 : wc.cell? ⟨gb227, 0, none⟩ = some (.int .i64 a4_0) := (blk_cell BK227.out 0).trans rfl
                have hcz97_1 : wc.cell? ⟨gb227, 1, none⟩ = some (.int .i64 (Go.bits .and .i64 a4_1 3)) := (blk_cell BK227.out 1).trans rfl
                have hcz97_2 : wc.cell? ⟨gb227, 2, none⟩ = some (.int .i64 0) := (blk_cell BK227.out 2).trans rfl
                have hfz97_0 := blk_frozen BK227.out 0
                have hfz97_1 := blk_frozen BK227.out 1
                have hfz97_2 := blk_frozen BK227.out 2
                go_wp2
                go_meet
                case rel => exact ⟨_, (decide ((wrap64 ((Go.bits .and .i64 a4_1 3) - (Go.bits .and .i64 a3_1 3))) > 1)), (by first | rfl | (simp; done) | (simp [*]; done)), H', ⟨by have := HJ7.out; have := HJ25.out; have := HJ27.out; have := HJ32.out; have := HJ38.out; have := HJ46.out; first | omega | exact Nat.le_refl _⟩, ⟨by (with_reducible repeat (first | refine blk_drewN ?_ _ | refine blk_drew ?_ | refine blk_alloc ?_ _)); exact BK220.out⟩, ⟨by (with_reducible repeat (first | refine blk_drewN ?_ _ | refine blk_drew ?_ | refine blk_alloc ?_ _)); exact BK221.out⟩, ⟨by (with_reducible repeat (first | refine blk_drewN ?_ _ | refine blk_drew ?_ | refine blk_alloc ?_ _)); exact BK222.out⟩, ⟨by (with_reducible repeat (first | refine blk_drewN ?_ _ | refine blk_drew ?_ | refine blk_alloc ?_ _)); exact BK226.out⟩, ⟨by (with_reducible repeat (first | refine blk_drewN ?_ _ | refine blk_drew ?_ | refine blk_alloc ?_ _)); exact BK227.out⟩, ⟨by repeat (first | (with_reducible first | exact HB.out | apply below_alloc | apply pw_below_drewN | apply below_drew1 | refine below_set ?_ GE220.out | refine below_set ?_ GE221.out | refine below_set ?_ GE222.out | refine below_set ?_ GE226.out | refine below_set ?_ GE227.out) | exact HB.out)⟩⟩
              case rest => as_aux_lemma =>
               clear HC78
               try clear c1
               try clear c2
               try clear p2
               try clear c3
               try clear c4
               try clear c5
               try clear c6
               try clear p6
               try clear c7
               try clear c8
               try clear c9
               try clear c13
               try clear c14
               try clear c16
               try clear c16b0
               try clear c16b1
               try clear c17
               try clear c18
               try clear c21
               try clear c22
               try clear c25
               try clear c27
               try clear c27b0
               try clear c27b1
               try clear c27b2
               try clear c29
               try clear c30
               try clear c31
               try clear c34
               try clear c34b0
               try clear c34b1
               try clear c34b2
               try clear c35
               try clear c36
               try clear c42
               try clear c42b0
               try clear c43
               try clear c43b0
               try clear c43b1
               try clear c43b2
               try clear c44
               try clear c44b0
               try clear c45
               try clear c45b0
               try clear c48
               try clear c49
               try clear c52
               try clear c53
               try clear c54
               try clear c56
               try clear c59
               try clear c60
               try clear c61
               try clear c62
               try clear p64
               try clear c67
               try clear c67b0
               try clear c67b1
               try clear c68
               try clear c69
               try clear c70
               try clear c71
               try clear c73
               try clear c74
               try clear c75
               try clear c76
               try clear c79
               try clear c79b0
               try clear c79b1
               try clear c80
               try clear c81
               try clear c82
               try clear c83
               try clear c85
               try clear c86
               try clear c87
               try clear c89
               try clear c90
               try clear c91
               try clear c92
               try clear c94
               try clear c95
               try clear c96
               try clear hcz15_0
               try clear hcz15_1
               try clear hcz15_10
               try clear hcz15_11
               try clear hcz15_12
               try clear hcz15_13
               try clear hcz15_14
               try clear hcz15_15
               try clear hcz15_16
               try clear hcz15_17
               try clear hcz15_18
               try clear hcz15_19
               try clear hcz15_2
               try clear hcz15_20
               try clear hcz15_3
               try clear hcz15_4
               try clear hcz15_5
               try clear hcz15_6
               try clear hcz15_7
               try clear hcz15_8
               try clear hcz15_9
               try clear hcz19_0
               try clear hcz19_1
               try clear hcz19_10
               try clear hcz19_11
               try clear hcz19_12
               try clear hcz19_13
               try clear hcz19_14
               try clear hcz19_15
               try clear hcz19_16
               try clear hcz19_17
               try clear hcz19_18
               try clear hcz19_19
               try clear hcz19_2
               try clear hcz19_20
               try clear hcz19_3
               try clear hcz19_4
               try clear hcz19_5
               try clear hcz19_6
               try clear hcz19_7
               try clear hcz19_8
               try clear hcz19_9
               try clear hcz23_0
               try clear hcz23_1
               try clear hcz23_10
               try clear hcz23_11
               try clear hcz23_12
               try clear hcz23_13
               try clear hcz23_14
               try clear hcz23_15
               try clear hcz23_16
               try clear hcz23_17
               try clear hcz23_18
               try clear hcz23_19
               try clear hcz23_2
               try clear hcz23_20
               try clear hcz23_3
               try clear hcz23_4
               try clear hcz23_5
               try clear hcz23_6
               try clear hcz23_7
               try clear hcz23_8
               try clear hcz23_9
               try clear hcz32_0
               try clear hcz32_1
               try clear hcz32_10
               try clear hcz32_11
               try clear hcz32_12
               try clear hcz32_13
               try clear hcz32_14
               try clear hcz32_15
               try clear hcz32_16
               try clear hcz32_17
               try clear hcz32_18
               try clear hcz32_19
               try clear hcz32_2
               try clear hcz32_20
               try clear hcz32_3
               try clear hcz32_4
               try clear hcz32_5
               try clear hcz32_6
               try clear hcz32_7
               try clear hcz32_8
               try clear hcz32_9
               try clear hcz37_0
               try clear hcz37_1
               try clear hcz37_10
               try clear hcz37_11
               try clear hcz37_12
               try clear hcz37_13
               try clear hcz37_14
               try clear hcz37_15
               try clear hcz37_16
               try clear hcz37_17
               try clear hcz37_18
               try clear hcz37_19
               try clear hcz37_2
               try clear hcz37_20
               try clear hcz37_3
               try clear hcz37_4
               try clear hcz37_5
               try clear hcz37_6
               try clear hcz37_7
               try clear hcz37_8
               try clear hcz37_9
               try clear hcz50_0
               try clear hcz50_1
               try clear hcz50_2
               try clear hcz55_0
               try clear hcz55_1
               try clear hcz55_2
               try clear hcz57_0
               try clear hcz57_1
               try clear hcz57_2
               try clear hcz63_0
               try clear hcz63_1
               try clear hcz63_2
               try clear hcz64_0
               try clear hcz64_1
               try clear hcz64_10
               try clear hcz64_11
               try clear hcz64_12
               try clear hcz64_13
               try clear hcz64_14
               try clear hcz64_15
               try clear hcz64_16
               try clear hcz64_17
               try clear hcz64_18
               try clear hcz64_19
               try clear hcz64_2
               try clear hcz64_20
               try clear hcz64_3
               try clear hcz64_4
               try clear hcz64_5
               try clear hcz64_6
               try clear hcz64_7
               try clear hcz64_8
               try clear hcz64_9
               try clear hcz65_0
               try clear hcz65_1
               try clear hcz65_2
               try clear hcz72_0
               try clear hcz72_1
               try clear hcz72_2
               try clear hcz77_0
               try clear hcz77_1
               try clear hcz77_2
               try clear hcz84_0
               try clear hcz84_1
               try clear hcz84_2
               try clear hcz88_0
               try clear hcz88_1
               try clear hcz88_2
               try clear hcz93_0
               try clear hcz93_1
               try clear hcz93_2
               try clear hcz97_0
               try clear hcz97_1
               try clear hcz97_2
               try clear hfz15_0
               try clear hfz15_1
               try clear hfz15_10
               try clear hfz15_11
               try clear hfz15_12
               try clear hfz15_13
               try clear hfz15_14
               try clear hfz15_15
               try clear hfz15_16
               try clear hfz15_17
               try clear hfz15_18
               try clear hfz15_19
               try clear hfz15_2
               try clear hfz15_20
               try clear hfz15_3
               try clear hfz15_4
               try clear hfz15_5
               try clear hfz15_6
               try clear hfz15_7
               try clear hfz15_8
               try clear hfz15_9
               try clear hfz19_0
               try clear hfz19_1
               try clear hfz19_10
               try clear hfz19_11
               try clear hfz19_12
               try clear hfz19_13
               try clear hfz19_14
               try clear hfz19_15
               try clear hfz19_16
               try clear hfz19_17
               try clear hfz19_18
               try clear hfz19_19
               try clear hfz19_2
               try clear hfz19_20
               try clear hfz19_3
               try clear hfz19_4
               try clear hfz19_5
               try clear hfz19_6
               try clear hfz19_7
               try clear hfz19_8
               try clear hfz19_9
               try clear hfz23_0
               try clear hfz23_1
               try clear hfz23_10
               try clear hfz23_11
               try clear hfz23_12
               try clear hfz23_13
               try clear hfz23_14
               try clear hfz23_15
               try clear hfz23_16
               try clear hfz23_17
               try clear hfz23_18
               try clear hfz23_19
               try clear hfz23_2
               try clear hfz23_20
               try clear hfz23_3
               try clear hfz23_4
               try clear hfz23_5
               try clear hfz23_6
               try clear hfz23_7
               try clear hfz23_8
               try clear hfz23_9
               try clear hfz32_0
               try clear hfz32_1
               try clear hfz32_10
               try clear hfz32_11
               try clear hfz32_12
               try clear hfz32_13
               try clear hfz32_14
               try clear hfz32_15
               try clear hfz32_16
               try clear hfz32_17
               try clear hfz32_18
               try clear hfz32_19
               try clear hfz32_2
               try clear hfz32_20
               try clear hfz32_3
               try clear hfz32_4
               try clear hfz32_5
               try clear hfz32_6
               try clear hfz32_7
               try clear hfz32_8
               try clear hfz32_9
               try clear hfz37_0
               try clear hfz37_1
               try clear hfz37_10
               try clear hfz37_11
               try clear hfz37_12
               try clear hfz37_13
               try clear hfz37_14
               try clear hfz37_15
               try clear hfz37_16
               try clear hfz37_17
               try clear hfz37_18
               try clear hfz37_19
               try clear hfz37_2
               try clear hfz37_20
               try clear hfz37_3
               try clear hfz37_4
               try clear hfz37_5
               try clear hfz37_6
               try clear hfz37_7
               try clear hfz37_8
               try clear hfz37_9
               try clear hfz50_0
               try clear hfz50_1
               try clear hfz50_2
               try clear hfz55_0
               try clear hfz55_1
               try clear hfz55_2
               try clear hfz57_0
               try clear hfz57_1
               try clear hfz57_2
               try clear hfz63_0
               try clear hfz63_1
               try clear hfz63_2
               try clear hfz64_0
               try clear hfz64_1
               try clear hfz64_10
               try clear hfz64_11
               try clear hfz64_12
               try clear hfz64_13
               try clear hfz64_14
               try clear hfz64_15
               try clear hfz64_16
               try clear hfz64_17
               try clear hfz64_18
               try clear hfz64_19
               try clear hfz64_2
               try clear hfz64_20
               try clear hfz64_3
               try clear hfz64_4
               try clear hfz64_5
               try clear hfz64_6
               try clear hfz64_7
               try clear hfz64_8
               try clear hfz64_9
               try clear hfz65_0
               try clear hfz65_1
               try clear hfz65_2
               try clear hfz72_0
               try clear hfz72_1
               try clear hfz72_2
               try clear hfz77_0
               try clear hfz77_1
               try clear hfz77_2
               try clear hfz84_0
               try clear hfz84_1
               try clear hfz84_2
               try clear hfz88_0
               try clear hfz88_1
               try clear hfz88_2
               try clear hfz93_0
               try clear hfz93_1
               try clear hfz93_2
               try clear hfz97_0
               try clear hfz97_1
               try clear hfz97_2
               try clear p2
               try clear p6
               try clear p64
               obtain ⟨kq, x128_77, rfl, HA, HJ77, BK220, BK221, BK222, BK226, BK227, HB⟩ := hcut
               cases kq with
               | zero => exact absurd HA.out (by simp [compositorlaw21_DemPlain.j6])
               | succ kj77 =>
                have H := HA.out
                clear HA
                simp only [compositorlaw21_DemPlain.j6] at H
                have HC98 := Aside0.mk H
                clear H
                go_upto_if 128 with (fail)
                go_cut [21] (fun v21 wc => ∃ (kq : Nat) (x21_97 : Int), v21 = .int .i64 x21_97 ∧ Aside0 (compositorlaw21_DemPlain.j7 kq t223 x18_38 x21_97 x22_46 a0_0 a0_1 a0_2 a0_3 l0_4 a0_5 a0_6 a0_7 a0_8 a0_9 a0_10 a0_11 a0_12 a0_13 a0_14 a0_15 a0_16 a0_17 0 0 a0_20 a4_0 (Go.bits .and .i64 a4_1 3) 0 = some r) ∧ Aside0 (kq ≤ kj77) ∧ Aside0 (wc.heap[gb220]? = some (.cells #[.int .i64 a0_0, .int .i64 a0_1, .int .i64 a0_2, .int .i64 a0_3, (.slice A0_4 l0_4.length c0_4), .int .i64 a0_5, .int .i64 a0_6, .int .i64 a0_7, .int .i64 a0_8, .int .i64 a0_9, .int .i64 a0_10, .int .i64 a0_11, .int .i64 a0_12, .int .i64 a0_13, .int .i64 a0_14, .int .i64 a0_15, .int .i64 a0_16, .int .i64 a0_17, .int .i64 0, .int .i64 0, .int .i64 a0_20] 24 (0, 0))) ∧ Aside0 (wc.heap[gb221]? = some (.cells #[.int .i64 a3_0, .int .i64 a3_1, .int .i64 a3_2] 26 (0, 0))) ∧ Aside0 (wc.heap[gb222]? = some (.cells #[.int .i64 a4_0, .int .i64 a4_1, .int .i64 a4_2] 26 (0, 0))) ∧ Aside0 (wc.heap[gb226]? = some (.cells #[.int .i64 a3_0, .int .i64 (Go.bits .and .i64 a3_1 3), .int .i64 0] 26 (0, 0))) ∧ Aside0 (wc.heap[gb227]? = some (.cells #[.int .i64 a4_0, .int .i64 (Go.bits .and .i64 a4_1 3), .int .i64 0] 26 (0, 0))) ∧ Aside0 (Below w.heap.size w wc))
                case first => as_aux_lemma =>
                 have H := HC98.out
                 clear HC98
                 by_cases c99 : x128_77 = true
                 ·subst c99
                  have H1 : (compositorlaw21_DemPlain.j7 kj77 t223 x18_38 (wrap64 (t228 - a0_15)) x22_46 a0_0 a0_1 a0_2 a0_3 l0_4 a0_5 a0_6 a0_7 a0_8 a0_9 a0_10 a0_11 a0_12 a0_13 a0_14 a0_15 a0_16 a0_17 0 0 a0_20 a4_0 (Go.bits .and .i64 a4_1 3) 0) = some r := by rw [if_pos rfl] at H; exact H
                  clear H
                  have H := H1
                  clear H1
                  have H' := Aside0.mk H
                  clear H
                  have hnb100 := NB220_221.out
                  have hnc100 := NB221_220.out
                  have hnb101 := NB220_222.out
                  have hnc101 := NB222_220.out
                  have hnb102 := NB220_226.out
                  have hnc102 := NB226_220.out
                  have hnb103 := NB220_227.out
                  have hnc103 := NB227_220.out
                  have hcz104_0 := blk_cell BK220.out
                  have hfz104_0 := blk_frozen BK220.out
                  go_wp2
                  go_meet
                  case rel => exact ⟨_, (wrap64 (t228 - a0_15)), (by first | rfl | (simp; done) | (simp [*]; done)), H', ⟨by have := HJ7.out; have := HJ25.out; have := HJ27.out; have := HJ32.out; have := HJ38.out; have := HJ46.out; have := HJ77.out; first | omega | exact Nat.le_refl _⟩, ⟨by (with_reducible repeat (first | refine blk_drewN ?_ _ | refine blk_drew ?_ | refine blk_alloc ?_ _)); exact BK220.out⟩, ⟨by (with_reducible repeat (first | refine blk_drewN ?_ _ | refine blk_drew ?_ | refine blk_alloc ?_ _)); exact BK221.out⟩, ⟨by (with_reducible repeat (first | refine blk_drewN ?_ _ | refine blk_drew ?_ | refine blk_alloc ?_ _)); exact BK222.out⟩, ⟨by (with_reducible repeat (first | refine blk_drewN ?_ _ | refine blk_drew ?_ | refine blk_alloc ?_ _)); exact BK226.out⟩, ⟨by (with_reducible repeat (first | refine blk_drewN ?_ _ | refine blk_drew ?_ | refine blk_alloc ?_ _)); exact BK227.out⟩, ⟨by repeat (first | (with_reducible first | exact HB.out | apply below_alloc | apply pw_below_drewN | apply below_drew1 | refine below_set ?_ GE220.out | refine below_set ?_ GE221.out | refine below_set ?_ GE222.out | refine below_set ?_ GE226.out | refine below_set ?_ GE227.out) | exact HB.out)⟩⟩
                 ·replace c99 := Bool.eq_false_iff.mpr c99
                  subst c99
                  have H1 : (compositorlaw21_DemPlain.j7 kj77 t223 x18_38 t228 x22_46 a0_0 a0_1 a0_2 a0_3 l0_4 a0_5 a0_6 a0_7 a0_8 a0_9 a0_10 a0_11 a0_12 a0_13 a0_14 a0_15 a0_16 a0_17 0 0 a0_20 a4_0 (Go.bits .and .i64 a4_1 3) 0) = some r := by rw [if_neg (show ¬ (false = true) by decide)] at H; exact H
                  clear H
                  have H := H1
                  clear H1
                  have H' := Aside0.mk H
                  clear H
                  go_wp2
                  go_meet
                  case rel => exact ⟨_, (t228), (by first | rfl | (simp; done) | (simp [*]; done)), H', ⟨by have := HJ7.out; have := HJ25.out; have := HJ27.out; have := HJ32.out; have := HJ38.out; have := HJ46.out; have := HJ77.out; first | omega | exact Nat.le_refl _⟩, ⟨by (with_reducible repeat (first | refine blk_drewN ?_ _ | refine blk_drew ?_ | refine blk_alloc ?_ _)); exact BK220.out⟩, ⟨by (with_reducible repeat (first | refine blk_drewN ?_ _ | refine blk_drew ?_ | refine blk_alloc ?_ _)); exact BK221.out⟩, ⟨by (with_reducible repeat (first | refine blk_drewN ?_ _ | refine blk_drew ?_ | refine blk_alloc ?_ _)); exact BK222.out⟩, ⟨by (with_reducible repeat (first | refine blk_drewN ?_ _ | refine blk_drew ?_ | refine blk_alloc ?_ _)); exact BK226.out⟩, ⟨by (with_reducible repeat (first | refine blk_drewN ?_ _ | refine blk_drew ?_ | refine blk_alloc ?_ _)); exact BK227.out⟩, ⟨by repeat (first | (with_reducible first | exact HB.out | apply below_alloc | apply pw_below_drewN | apply below_drew1 | refine below_set ?_ GE220.out | refine below_set ?_ GE221.out | refine below_set ?_ GE222.out | refine below_set ?_ GE226.out | refine below_set ?_ GE227.out) | exact HB.out)⟩⟩
                case rest => as_aux_lemma =>
                 clear HC98
                 try clear c1
                 try clear c2
                 try clear p2
                 try clear c3
                 try clear c4
                 try clear c5
                 try clear c6
                 try clear p6
                 try clear c7
                 try clear c8
                 try clear c9
                 try clear c10
                 try clear c13
                 try clear c14
                 try clear c16
                 try clear c16b0
                 try clear c16b1
                 try clear c17
                 try clear c18
                 try clear c21
                 try clear c22
                 try clear c25
                 try clear c27
                 try clear c27b0
                 try clear c27b1
                 try clear c27b2
                 try clear c29
                 try clear c30
                 try clear c31
                 try clear c34
                 try clear c34b0
                 try clear c34b1
                 try clear c34b2
                 try clear c35
                 try clear c36
                 try clear c42
                 try clear c42b0
                 try clear c43
                 try clear c43b0
                 try clear c43b1
                 try clear c43b2
                 try clear c44
                 try clear c44b0
                 try clear c45
                 try clear c45b0
                 try clear c48
                 try clear c49
                 try clear c52
                 try clear c53
                 try clear c54
                 try clear c56
                 try clear c59
                 try clear c60
                 try clear c61
                 try clear c62
                 try clear p64
                 try clear c67
                 try clear c67b0
                 try clear c67b1
                 try clear c68
                 try clear c69
                 try clear c70
                 try clear c71
                 try clear c73
                 try clear c74
                 try clear c75
                 try clear c76
                 try clear c79
                 try clear c79b0
                 try clear c79b1
                 try clear c80
                 try clear c81
                 try clear c82
                 try clear c83
                 try clear c85
                 try clear c86
                 try clear c87
                 try clear c89
                 try clear c90
                 try clear c91
                 try clear c92
                 try clear c94
                 try clear c95
                 try clear c96
                 try clear c99
                 try clear c100
                 try clear c101
                 try clear c102
                 try clear c103
                 try clear hcz104_0
                 try clear hcz104_1
                 try clear hcz104_10
                 try clear hcz104_11
                 try clear hcz104_12
                 try clear hcz104_13
                 try clear hcz104_14
                 try clear hcz104_15
                 try clear hcz104_16
                 try clear hcz104_17
                 try clear hcz104_18
                 try clear hcz104_19
                 try clear hcz104_2
                 try clear hcz104_20
                 try clear hcz104_3
                 try clear hcz104_4
                 try clear hcz104_5
                 try clear hcz104_6
                 try clear hcz104_7
                 try clear hcz104_8
                 try clear hcz104_9
                 try clear hcz15_0
                 try clear hcz15_1
                 try clear hcz15_10
                 try clear hcz15_11
                 try clear hcz15_12
                 try clear hcz15_13
                 try clear hcz15_14
                 try clear hcz15_15
                 try clear hcz15_16
                 try clear hcz15_17
                 try clear hcz15_18
                 try clear hcz15_19
                 try clear hcz15_2
                 try clear hcz15_20
                 try clear hcz15_3
                 try clear hcz15_4
                 try clear hcz15_5
                 try clear hcz15_6
                 try clear hcz15_7
                 try clear hcz15_8
                 try clear hcz15_9
                 try clear hcz19_0
                 try clear hcz19_1
                 try clear hcz19_10
                 try clear hcz19_11
                 try clear hcz19_12
                 try clear hcz19_13
                 try clear hcz19_14
                 try clear hcz19_15
                 try clear hcz19_16
                 try clear hcz19_17
                 try clear hcz19_18
                 try clear hcz19_19
                 try clear hcz19_2
                 try clear hcz19_20
                 try clear hcz19_3
                 try clear hcz19_4
                 try clear hcz19_5
                 try clear hcz19_6
                 try clear hcz19_7
                 try clear hcz19_8
                 try clear hcz19_9
                 try clear hcz23_0
                 try clear hcz23_1
                 try clear hcz23_10
                 try clear hcz23_11
                 try clear hcz23_12
                 try clear hcz23_13
                 try clear hcz23_14
                 try clear hcz23_15
                 try clear hcz23_16
                 try clear hcz23_17
                 try clear hcz23_18
                 try clear hcz23_19
                 try clear hcz23_2
                 try clear hcz23_20
                 try clear hcz23_3
                 try clear hcz23_4
                 try clear hcz23_5
                 try clear hcz23_6
                 try clear hcz23_7
                 try clear hcz23_8
                 try clear hcz23_9
                 try clear hcz32_0
                 try clear hcz32_1
                 try clear hcz32_10
                 try clear hcz32_11
                 try clear hcz32_12
                 try clear hcz32_13
                 try clear hcz32_14
                 try clear hcz32_15
                 try clear hcz32_16
                 try clear hcz32_17
                 try clear hcz32_18
                 try clear hcz32_19
                 try clear hcz32_2
                 try clear hcz32_20
                 try clear hcz32_3
                 try clear hcz32_4
                 try clear hcz32_5
                 try clear hcz32_6
                 try clear hcz32_7
                 try clear hcz32_8
                 try clear hcz32_9
                 try clear hcz37_0
                 try clear hcz37_1
                 try clear hcz37_10
                 try clear hcz37_11
                 try clear hcz37_12
                 try clear hcz37_13
                 try clear hcz37_14
                 try clear hcz37_15
                 try clear hcz37_16
                 try clear hcz37_17
                 try clear hcz37_18
                 try clear hcz37_19
                 try clear hcz37_2
                 try clear hcz37_20
                 try clear hcz37_3
                 try clear hcz37_4
                 try clear hcz37_5
                 try clear hcz37_6
                 try clear hcz37_7
                 try clear hcz37_8
                 try clear hcz37_9
                 try clear hcz50_0
                 try clear hcz50_1
                 try clear hcz50_2
                 try clear hcz55_0
                 try clear hcz55_1
                 try clear hcz55_2
                 try clear hcz57_0
                 try clear hcz57_1
                 try clear hcz57_2
                 try clear hcz63_0
                 try clear hcz63_1
                 try clear hcz63_2
                 try clear hcz64_0
                 try clear hcz64_1
                 try clear hcz64_10
                 try clear hcz64_11
                 try clear hcz64_12
                 try clear hcz64_13
                 try clear hcz64_14
                 try clear hcz64_15
                 try clear hcz64_16
                 try clear hcz64_17
                 try clear hcz64_18
                 try clear hcz64_19
                 try clear hcz64_2
                 try clear hcz64_20
                 try clear hcz64_3
                 try clear hcz64_4
                 try clear hcz64_5
                 try clear hcz64_6
                 try clear hcz64_7
                 try clear hcz64_8
                 try clear hcz64_9
                 try clear hcz65_0
                 try clear hcz65_1
                 try clear hcz65_2
                 try clear hcz72_0
                 try clear hcz72_1
                 try clear hcz72_2
                 try clear hcz77_0
                 try clear hcz77_1
                 try clear hcz77_2
                 try clear hcz84_0
                 try clear hcz84_1
                 try clear hcz84_2
                 try clear hcz88_0
                 try clear hcz88_1
                 try clear hcz88_2
                 try clear hcz93_0
                 try clear hcz93_1
                 try clear hcz93_2
                 try clear hcz97_0
                 try clear hcz97_1
                 try clear hcz97_2
                 try clear hfz104_0
                 try clear hfz104_1
                 try clear hfz104_10
                 try clear hfz104_11
                 try clear hfz104_12
                 try clear hfz104_13
                 try clear hfz104_14
                 try clear hfz104_15
                 try clear hfz104_16
                 try clear hfz104_17
                 try clear hfz104_18
                 try clear hfz104_19
                 try clear hfz104_2
                 try clear hfz104_20
                 try clear hfz104_3
                 try clear hfz104_4
                 try clear hfz104_5
                 try clear hfz104_6
                 try clear hfz104_7
                 try clear hfz104_8
                 try clear hfz104_9
                 try clear hfz15_0
                 try clear hfz15_1
                 try clear hfz15_10
                 try clear hfz15_11
                 try clear hfz15_12
                 try clear hfz15_13
                 try clear hfz15_14
                 try clear hfz15_15
                 try clear hfz15_16
                 try clear hfz15_17
                 try clear hfz15_18
                 try clear hfz15_19
                 try clear hfz15_2
                 try clear hfz15_20
                 try clear hfz15_3
                 try clear hfz15_4
                 try clear hfz15_5
                 try clear hfz15_6
                 try clear hfz15_7
                 try clear hfz15_8
                 try clear hfz15_9
                 try clear hfz19_0
                 try clear hfz19_1
                 try clear hfz19_10
                 try clear hfz19_11
                 try clear hfz19_12
                 try clear hfz19_13
                 try clear hfz19_14
                 try clear hfz19_15
                 try clear hfz19_16
                 try clear hfz19_17
                 try clear hfz19_18
                 try clear hfz19_19
                 try clear hfz19_2
                 try clear hfz19_20
                 try clear hfz19_3
                 try clear hfz19_4
                 try clear hfz19_5
                 try clear hfz19_6
                 try clear hfz19_7
                 try clear hfz19_8
                 try clear hfz19_9
                 try clear hfz23_0
                 try clear hfz23_1
                 try clear hfz23_10
                 try clear hfz23_11
                 try clear hfz23_12
                 try clear hfz23_13
                 try clear hfz23_14
                 try clear hfz23_15
                 try clear hfz23_16
                 try clear hfz23_17
                 try clear hfz23_18
                 try clear hfz23_19
                 try clear hfz23_2
                 try clear hfz23_20
                 try clear hfz23_3
                 try clear hfz23_4
                 try clear hfz23_5
                 try clear hfz23_6
                 try clear hfz23_7
                 try clear hfz23_8
                 try clear hfz23_9
                 try clear hfz32_0
                 try clear hfz32_1
                 try clear hfz32_10
                 try clear hfz32_11
                 try clear hfz32_12
                 try clear hfz32_13
                 try clear hfz32_14
                 try clear hfz32_15
                 try clear hfz32_16
                 try clear hfz32_17
                 try clear hfz32_18
                 try clear hfz32_19
                 try clear hfz32_2
                 try clear hfz32_20
                 try clear hfz32_3
                 try clear hfz32_4
                 try clear hfz32_5
                 try clear hfz32_6
                 try clear hfz32_7
                 try clear hfz32_8
                 try clear hfz32_9
                 try clear hfz37_0
                 try clear hfz37_1
                 try clear hfz37_10
                 try clear hfz37_11
                 try clear hfz37_12
                 try clear hfz37_13
                 try clear hfz37_14
                 try clear hfz37_15
                 try clear hfz37_16
                 try clear hfz37_17
                 try clear hfz37_18
                 try clear hfz37_19
                 try clear hfz37_2
                 try clear hfz37_20
                 try clear hfz37_3
                 try clear hfz37_4
                 try clear hfz37_5
                 try clear hfz37_6
                 try clear hfz37_7
                 try clear hfz37_8
                 try clear hfz37_9
                 try clear hfz50_0
                 try clear hfz50_1
                 try clear hfz50_2
                 try clear hfz55_0
                 try clear hfz55_1
                 try clear hfz55_2
                 try clear hfz57_0
                 try clear hfz57_1
                 try clear hfz57_2
                 try clear hfz63_0
                 try clear hfz63_1
                 try clear hfz63_2
                 try clear hfz64_0
                 try clear hfz64_1
                 try clear hfz64_10
                 try clear hfz64_11
                 try clear hfz64_12
                 try clear hfz64_13
                 try clear hfz64_14
                 try clear hfz64_15
                 try clear hfz64_16
                 try clear hfz64_17
                 try clear hfz64_18
                 try clear hfz64_19
                 try clear hfz64_2
                 try clear hfz64_20
                 try clear hfz64_3
                 try clear hfz64_4
                 try clear hfz64_5
                 try clear hfz64_6
                 try clear hfz64_7
                 try clear hfz64_8
                 try clear hfz64_9
                 try clear hfz65_0
                 try clear hfz65_1
                 try clear hfz65_2
                 try clear hfz72_0
                 try clear hfz72_1
                 try clear hfz72_2
                 try clear hfz77_0
                 try clear hfz77_1
                 try clear hfz77_2
                 try clear hfz84_0
                 try clear hfz84_1
                 try clear hfz84_2
                 try clear hfz88_0
                 try clear hfz88_1
                 try clear hfz88_2
                 try clear hfz93_0
                 try clear hfz93_1
                 try clear hfz93_2
                 try clear hfz97_0
                 try clear hfz97_1
                 try clear hfz97_2
                 try clear p2
                 try clear p6
                 try clear p64
                 obtain ⟨kq, x21_97, rfl, HA, HJ97, BK220, BK221, BK222, BK226, BK227, HB⟩ := hcut
                 cases kq with
                 | zero => exact absurd HA.out (by simp [compositorlaw21_DemPlain.j7])
                 | succ kj97 =>
                  have H := HA.out
                  clear HA
                  simp only [compositorlaw21_DemPlain.j7] at H
                  have HC105 := Aside0.mk H
                  clear H
                  go_upto_region 21 with (fail)
                  go_cut [143] (fun v143 wc => ∃ (kq : Nat) (x143_104 : Bool), v143 = .bool x143_104 ∧ Aside0 (compositorlaw21_DemPlain.j8 kq t223 x18_38 x21_97 x22_46 x143_104 a0_0 a0_1 a0_2 a0_3 l0_4 a0_5 a0_6 a0_7 a0_8 a0_9 a0_10 a0_11 a0_12 a0_13 a0_14 a0_15 a0_16 a0_17 0 0 a0_20 a4_0 (Go.bits .and .i64 a4_1 3) 0 = some r) ∧ Aside0 (kq ≤ kj97) ∧ Aside0 (wc.heap[gb220]? = some (.cells #[.int .i64 a0_0, .int .i64 a0_1, .int .i64 a0_2, .int .i64 a0_3, (.slice A0_4 l0_4.length c0_4), .int .i64 a0_5, .int .i64 a0_6, .int .i64 a0_7, .int .i64 a0_8, .int .i64 a0_9, .int .i64 a0_10, .int .i64 a0_11, .int .i64 a0_12, .int .i64 a0_13, .int .i64 a0_14, .int .i64 a0_15, .int .i64 a0_16, .int .i64 a0_17, .int .i64 0, .int .i64 0, .int .i64 a0_20] 24 (0, 0))) ∧ Aside0 (wc.heap[gb221]? = some (.cells #[.int .i64 a3_0, .int .i64 a3_1, .int .i64 a3_2] 26 (0, 0))) ∧ Aside0 (wc.heap[gb222]? = some (.cells #[.int .i64 a4_0, .int .i64 a4_1, .int .i64 a4_2] 26 (0, 0))) ∧ Aside0 (wc.heap[gb226]? = some (.cells #[.int .i64 a3_0, .int .i64 (Go.bits .and .i64 a3_1 3), .int .i64 0] 26 (0, 0))) ∧ Aside0 (wc.heap[gb227]? = some (.cells #[.int .i64 a4_0, .int .i64 (Go.bits .and .i64 a4_1 3), .int .i64 0] 26 (0, 0))) ∧ Aside0 (Below w.heap.size w wc))
                  case first => as_aux_lemma =>
                   have H := HC105.out
                   clear HC105
                   by_cases c106 : x22_46 = true
                   ·subst c106
                    have H1 : (if a4_0 = 2 then (compositorlaw21_DemPlain.j8 kj97 t223 x18_38 x21_97 true true a0_0 a0_1 a0_2 a0_3 l0_4 a0_5 a0_6 a0_7 a0_8 a0_9 a0_10 a0_11 a0_12 a0_13 a0_14 a0_15 a0_16 a0_17 0 0 a0_20 a4_0 (Go.bits .and .i64 a4_1 3) 0) else (compositorlaw21_DemPlain.j8 kj97 t223 x18_38 x21_97 true (a4_0 == 3) a0_0 a0_1 a0_2 a0_3 l0_4 a0_5 a0_6 a0_7 a0_8 a0_9 a0_10 a0_11 a0_12 a0_13 a0_14 a0_15 a0_16 a0_17 0 0 a0_20 a4_0 (Go.bits .and .i64 a4_1 3) 0)) = some r := by rw [if_pos rfl] at H; exact H
                    clear H
                    have H := H1
                    clear H1
                    by_cases c107 : a4_0 = 2
                    ·rw [if_pos c107] at H
                     have c107b0 : (a4_0 == 2) = true := beq_iff_eq.mpr c107
                     have c107b1 : (a4_0 != 2) = false := bne_eq_false_iff_eq.mpr c107
                     clear c107
                     (first | rw [c107b0] | (simp only [i64_w, i32_w]; rw [c107b0]) | skip)
                     have H' := Aside0.mk H
                     clear H
                     have hnb108 := NB227_220.out
                     have hnc108 := NB220_227.out
                     have hnb109 := NB227_221.out
                     have hnc109 := NB221_227.out
                     have hnb110 := NB227_222.out
                     have hnc110 := NB222_227.out
                     have hnb111 := NB227_226.out
                     have hnc111 := NB226_227.out
                     have hcz112_0 : wc.cell? ⟨gb227, 0, none⟩ = some (.int .i64 a4_0) := (blk_cell BK227.out 0).trans rfl
                     have hcz112_1 : wc.cell? ⟨gb227, 1, none⟩ = some (.int .i64 (Go.bits .and .i64 a4_1 3)) := (blk_cell BK227.out 1).trans rfl
                     have hcz112_2 : wc.cell? ⟨gb227, 2, none⟩ = some (.int .i64 0) := (blk_cell BK227.out 2).trans rfl
                     have hfz112_0 := blk_frozen BK227.out 0
                     have hfz112_1 := blk_frozen BK227.out 1
                     have hfz112_2 := blk_frozen BK227.out 2
                     go_wp2
                     go_meet
                     case rel => exact ⟨_, (true), (by first | rfl | (simp; done) | (simp [*]; done)), H', ⟨by have := HJ7.out; have := HJ25.out; have := HJ27.out; have := HJ32.out; have := HJ38.out; have := HJ46.out; have := HJ77.out; have := HJ97.out; first | omega | exact Nat.le_refl _⟩, ⟨by (with_reducible repeat (first | refine blk_drewN ?_ _ | refine blk_drew ?_ | refine blk_alloc ?_ _)); exact BK220.out⟩, ⟨by (with_reducible repeat (first | refine blk_drewN ?_ _ | refine blk_drew ?_ | refine blk_alloc ?_ _)); exact BK221.out⟩, ⟨by (with_reducible repeat (first | refine blk_drewN ?_ _ | refine blk_drew ?_ | refine blk_alloc ?_ _)); exact BK222.out⟩, ⟨by (with_reducible repeat (first | refine blk_drewN ?_ _ | refine blk_drew ?_ | refine blk_alloc ?_ _)); exact BK226.out⟩, ⟨by (with_reducible repeat (first | refine blk_drewN ?_ _ | refine blk_drew ?_ | refine blk_alloc ?_ _)); exact BK227.out⟩, ⟨by repeat (first | (with_reducible first | exact HB.out | apply below_alloc | apply pw_below_drewN | apply below_drew1 | refine below_set ?_ GE220.out | refine below_set ?_ GE221.out | refine below_set ?_ GE222.out | refine below_set ?_ GE226.out | refine below_set ?_ GE227.out) | exact HB.out)⟩⟩
                    ·rw [if_neg c107] at H
                     have c107b0 : (a4_0 == 2) = false := beq_eq_false_iff_ne.mpr c107
                     have c107b1 : (a4_0 != 2) = true := bne_iff_ne.mpr c107
                     (first | rw [c107b0] | (simp only [i64_w, i32_w]; rw [c107b0]) | skip)
                     have H' := Aside0.mk H
                     clear H
                     have hnb113 := NB227_220.out
                     have hnc113 := NB220_227.out
                     have hnb114 := NB227_221.out
                     have hnc114 := NB221_227.out
                     have hnb115 := NB227_222.out
                     have hnc115 := NB222_227.out
                     have hnb116 := NB227_226.out
                     have hnc116 := NB226_227.out
                     have hcz117_0 : wc.cell? ⟨gb227, 0, none⟩ = some (.int .i64 a4_0) := (blk_cell BK227.out 0).trans rfl
                     have hcz117_1 : wc.cell? ⟨gb227, 1, none⟩ = some (.int .i64 (Go.bits .and .i64 a4_1 3)) := (blk_cell BK227.out 1).trans rfl
                     have hcz117_2 : wc.cell? ⟨gb227, 2, none⟩ = some (.int .i64 0) := (blk_cell BK227.out 2).trans rfl
                     have hfz117_0 := blk_frozen BK227.out 0
                     have hfz117_1 := blk_frozen BK227.out 1
                     have hfz117_2 := blk_frozen BK227.out 2
                     go_wp2
                     go_meet
                     case rel => exact ⟨_, ((a4_0 == 3)), (by first | rfl | (simp; done) | (simp [*]; done)), H', ⟨by have := HJ7.out; have := HJ25.out; have := HJ27.out; have := HJ32.out; have := HJ38.out; have := HJ46.out; have := HJ77.out; have := HJ97.out; first | omega | exact Nat.le_refl _⟩, ⟨by (with_reducible repeat (first | refine blk_drewN ?_ _ | refine blk_drew ?_ | refine blk_alloc ?_ _)); exact BK220.out⟩, ⟨by (with_reducible repeat (first | refine blk_drewN ?_ _ | refine blk_drew ?_ | refine blk_alloc ?_ _)); exact BK221.out⟩, ⟨by (with_reducible repeat (first | refine blk_drewN ?_ _ | refine blk_drew ?_ | refine blk_alloc ?_ _)); exact BK222.out⟩, ⟨by (with_reducible repeat (first | refine blk_drewN ?_ _ | refine blk_drew ?_ | refine blk_alloc ?_ _)); exact BK226.out⟩, ⟨by (with_reducible repeat (first | refine blk_drewN ?_ _ | refine blk_drew ?_ | refine blk_alloc ?_ _)); exact BK227.out⟩, ⟨by repeat (first | (with_reducible first | exact HB.out | apply below_alloc | apply pw_below_drewN | apply below_drew1 | refine below_set ?_ GE220.out | refine below_set ?_ GE221.out | refine below_set ?_ GE222.out | refine below_set ?_ GE226.out | refine below_set ?_ GE227.out) | exact HB.out)⟩⟩
                   ·replace c106 := Bool.eq_false_iff.mpr c106
                    subst c106
                    have H1 : (compositorlaw21_DemPlain.j8 kj97 t223 x18_38 x21_97 false false a0_0 a0_1 a0_2 a0_3 l0_4 a0_5 a0_6 a0_7 a0_8 a0_9 a0_10 a0_11 a0_12 a0_13 a0_14 a0_15 a0_16 a0_17 0 0 a0_20 a4_0 (Go.bits .and .i64 a4_1 3) 0) = some r := by rw [if_neg (show ¬ (false = true) by decide)] at H; exact H
                    clear H
                    have H := H1
                    clear H1
                    have H' := Aside0.mk H
                    clear H
                    go_wp2
                    go_meet
                    case rel => exact ⟨_, (false), (by first | rfl | (simp; done) | (simp [*]; done)), H', ⟨by have := HJ7.out; have := HJ25.out; have := HJ27.out; have := HJ32.out; have := HJ38.out; have := HJ46.out; have := HJ77.out; have := HJ97.out; first | omega | exact Nat.le_refl _⟩, ⟨by (with_reducible repeat (first | refine blk_drewN ?_ _ | refine blk_drew ?_ | refine blk_alloc ?_ _)); exact BK220.out⟩, ⟨by (with_reducible repeat (first | refine blk_drewN ?_ _ | refine blk_drew ?_ | refine blk_alloc ?_ _)); exact BK221.out⟩, ⟨by (with_reducible repeat (first | refine blk_drewN ?_ _ | refine blk_drew ?_ | refine blk_alloc ?_ _)); exact BK222.out⟩, ⟨by (with_reducible repeat (first | refine blk_drewN ?_ _ | refine blk_drew ?_ | refine blk_alloc ?_ _)); exact BK226.out⟩, ⟨by (with_reducible repeat (first | refine blk_drewN ?_ _ | refine blk_drew ?_ | refine blk_alloc ?_ _)); exact BK227.out⟩, ⟨by repeat (first | (with_reducible first | exact HB.out | apply below_alloc | apply pw_below_drewN | apply below_drew1 | refine below_set ?_ GE220.out | refine below_set ?_ GE221.out | refine below_set ?_ GE222.out | refine below_set ?_ GE226.out | refine below_set ?_ GE227.out) | exact HB.out)⟩⟩
                  case rest => as_aux_lemma =>
                   clear HC105
                   try clear c1
                   try clear c2
                   try clear p2
                   try clear c3
                   try clear c4
                   try clear c5
                   try clear c6
                   try clear p6
                   try clear c7
                   try clear c8
                   try clear c9
                   try clear c10
                   try clear c11
                   try clear c13
                   try clear c14
                   try clear c16
                   try clear c16b0
                   try clear c16b1
                   try clear c17
                   try clear c18
                   try clear c21
                   try clear c22
                   try clear c25
                   try clear c27
                   try clear c27b0
                   try clear c27b1
                   try clear c27b2
                   try clear c29
                   try clear c30
                   try clear c31
                   try clear c34
                   try clear c34b0
                   try clear c34b1
                   try clear c34b2
                   try clear c35
                   try clear c36
                   try clear c42
                   try clear c42b0
                   try clear c43
                   try clear c43b0
                   try clear c43b1
                   try clear c43b2
                   try clear c44
                   try clear c44b0
                   try clear c45
                   try clear c45b0
                   try clear c48
                   try clear c49
                   try clear c52
                   try clear c53
                   try clear c54
                   try clear c56
                   try clear c59
                   try clear c60
                   try clear c61
                   try clear c62
                   try clear p64
                   try clear c67
                   try clear c67b0
                   try clear c67b1
                   try clear c68
                   try clear c69
                   try clear c70
                   try clear c71
                   try clear c73
                   try clear c74
                   try clear c75
                   try clear c76
                   try clear c79
                   try clear c79b0
                   try clear c79b1
                   try clear c80
                   try clear c81
                   try clear c82
                   try clear c83
                   try clear c85
                   try clear c86
                   try clear c87
                   try clear c89
                   try clear c90
                   try clear c91
                   try clear c92
                   try clear c94
                   try clear c95
                   try clear c96
                   try clear c99
                   try clear c100
                   try clear c101
                   try clear c102
                   try clear c103
                   try clear c106
                   try clear c107
                   try clear c107b0
                   try clear c107b1
                   try clear c108
                   try clear c109
                   try clear c110
                   try clear c111
                   try clear c113
                   try clear c114
                   try clear c115
                   try clear c116
                   try clear hcz104_0
                   try clear hcz104_1
                   try clear hcz104_10
                   try clear hcz104_11
                   try clear hcz104_12
                   try clear hcz104_13
                   try clear hcz104_14
                   try clear hcz104_15
                   try clear hcz104_16
                   try clear hcz104_17
                   try clear hcz104_18
                   try clear hcz104_19
                   try clear hcz104_2
                   try clear hcz104_20
                   try clear hcz104_3
                   try clear hcz104_4
                   try clear hcz104_5
                   try clear hcz104_6
                   try clear hcz104_7
                   try clear hcz104_8
                   try clear hcz104_9
                   try clear hcz112_0
                   try clear hcz112_1
                   try clear hcz112_2
                   try clear hcz117_0
                   try clear hcz117_1
                   try clear hcz117_2
                   try clear hcz15_0
                   try clear hcz15_1
                   try clear hcz15_10
                   try clear hcz15_11
                   try clear hcz15_12
                   try clear hcz15_13
                   try clear hcz15_14
                   try clear hcz15_15
                   try clear hcz15_16
                   try clear hcz15_17
                   try clear hcz15_18
                   try clear hcz15_19
                   try clear hcz15_2
                   try clear hcz15_20
                   try clear hcz15_3
                   try clear hcz15_4
                   try clear hcz15_5
                   try clear hcz15_6
                   try clear hcz15_7
                   try clear hcz15_8
                   try clear hcz15_9
                   try clear hcz19_0
                   try clear hcz19_1
                   try clear hcz19_10
                   try clear hcz19_11
                   try clear hcz19_12
                   try clear hcz19_13
                   try clear hcz19_14
                   try clear hcz19_15
                   try clear hcz19_16
                   try clear hcz19_17
                   try clear hcz19_18
                   try clear hcz19_19
                   try clear hcz19_2
                   try clear hcz19_20
                   try clear hcz19_3
                   try clear hcz19_4
                   try clear hcz19_5
                   try clear hcz19_6
                   try clear hcz19_7
                   try clear hcz19_8
                   try clear hcz19_9
                   try clear hcz23_0
                   try clear hcz23_1
                   try clear hcz23_10
                   try clear hcz23_11
                   try clear hcz23_12
                   try clear hcz23_13
                   try clear hcz23_14
                   try clear hcz23_15
                   try clear hcz23_16
                   try clear hcz23_17
                   try clear hcz23_18
                   try clear hcz23_19
                   try clear hcz23_2
                   try clear hcz23_20
                   try clear hcz23_3
                   try clear hcz23_4
                   try clear hcz23_5
                   try clear hcz23_6
                   try clear hcz23_7
                   try clear hcz23_8
                   try clear hcz23_9
                   try clear hcz32_0
                   try clear hcz32_1
                   try clear hcz32_10
                   try clear hcz32_11
                   try clear hcz32_12
                   try clear hcz32_13
                   try clear hcz32_14
                   try clear hcz32_15
                   try clear hcz32_16
                   try clear hcz32_17
                   try clear hcz32_18
                   try clear hcz32_19
                   try clear hcz32_2
                   try clear hcz32_20
                   try clear hcz32_3
                   try clear hcz32_4
                   try clear hcz32_5
                   try clear hcz32_6
                   try clear hcz32_7
                   try clear hcz32_8
                   try clear hcz32_9
                   try clear hcz37_0
                   try clear hcz37_1
                   try clear hcz37_10
                   try clear hcz37_11
                   try clear hcz37_12
                   try clear hcz37_13
                   try clear hcz37_14
                   try clear hcz37_15
                   try clear hcz37_16
                   try clear hcz37_17
                   try clear hcz37_18
                   try clear hcz37_19
                   try clear hcz37_2
                   try clear hcz37_20
                   try clear hcz37_3
                   try clear hcz37_4
                   try clear hcz37_5
                   try clear hcz37_6
                   try clear hcz37_7
                   try clear hcz37_8
                   try clear hcz37_9
                   try clear hcz50_0
                   try clear hcz50_1
                   try clear hcz50_2
                   try clear hcz55_0
                   try clear hcz55_1
                   try clear hcz55_2
                   try clear hcz57_0
                   try clear hcz57_1
                   try clear hcz57_2
                   try clear hcz63_0
                   try clear hcz63_1
                   try clear hcz63_2
                   try clear hcz64_0
                   try clear hcz64_1
                   try clear hcz64_10
                   try clear hcz64_11
                   try clear hcz64_12
                   try clear hcz64_13
                   try clear hcz64_14
                   try clear hcz64_15
                   try clear hcz64_16
                   try clear hcz64_17
                   try clear hcz64_18
                   try clear hcz64_19
                   try clear hcz64_2
                   try clear hcz64_20
                   try clear hcz64_3
                   try clear hcz64_4
                   try clear hcz64_5
                   try clear hcz64_6
                   try clear hcz64_7
                   try clear hcz64_8
                   try clear hcz64_9
                   try clear hcz65_0
                   try clear hcz65_1
                   try clear hcz65_2
                   try clear hcz72_0
                   try clear hcz72_1
                   try clear hcz72_2
                   try clear hcz77_0
                   try clear hcz77_1
                   try clear hcz77_2
                   try clear hcz84_0
                   try clear hcz84_1
                   try clear hcz84_2
                   try clear hcz88_0
                   try clear hcz88_1
                   try clear hcz88_2
                   try clear hcz93_0
                   try clear hcz93_1
                   try clear hcz93_2
                   try clear hcz97_0
                   try clear hcz97_1
                   try clear hcz97_2
                   try clear hfz104_0
                   try clear hfz104_1
                   try clear hfz104_10
                   try clear hfz104_11
                   try clear hfz104_12
                   try clear hfz104_13
                   try clear hfz104_14
                   try clear hfz104_15
                   try clear hfz104_16
                   try clear hfz104_17
                   try clear hfz104_18
                   try clear hfz104_19
                   try clear hfz104_2
                   try clear hfz104_20
                   try clear hfz104_3
                   try clear hfz104_4
                   try clear hfz104_5
                   try clear hfz104_6
                   try clear hfz104_7
                   try clear hfz104_8
                   try clear hfz104_9
                   try clear hfz112_0
                   try clear hfz112_1
                   try clear hfz112_2
                   try clear hfz117_0
                   try clear hfz117_1
                   try clear hfz117_2
                   try clear hfz15_0
                   try clear hfz15_1
                   try clear hfz15_10
                   try clear hfz15_11
                   try clear hfz15_12
                   try clear hfz15_13
                   try clear hfz15_14
                   try clear hfz15_15
                   try clear hfz15_16
                   try clear hfz15_17
                   try clear hfz15_18
                   try clear hfz15_19
                   try clear hfz15_2
                   try clear hfz15_20
                   try clear hfz15_3
                   try clear hfz15_4
                   try clear hfz15_5
                   try clear hfz15_6
                   try clear hfz15_7
                   try clear hfz15_8
                   try clear hfz15_9
                   try clear hfz19_0
                   try clear hfz19_1
                   try clear hfz19_10
                   try clear hfz19_11
                   try clear hfz19_12
                   try clear hfz19_13
                   try clear hfz19_14
                   try clear hfz19_15
                   try clear hfz19_16
                   try clear hfz19_17
                   try clear hfz19_18
                   try clear hfz19_19
                   try clear hfz19_2
                   try clear hfz19_20
                   try clear hfz19_3
                   try clear hfz19_4
                   try clear hfz19_5
                   try clear hfz19_6
                   try clear hfz19_7
                   try clear hfz19_8
                   try clear hfz19_9
                   try clear hfz23_0
                   try clear hfz23_1
                   try clear hfz23_10
                   try clear hfz23_11
                   try clear hfz23_12
                   try clear hfz23_13
                   try clear hfz23_14
                   try clear hfz23_15
                   try clear hfz23_16
                   try clear hfz23_17
                   try clear hfz23_18
                   try clear hfz23_19
                   try clear hfz23_2
                   try clear hfz23_20
                   try clear hfz23_3
                   try clear hfz23_4
                   try clear hfz23_5
                   try clear hfz23_6
                   try clear hfz23_7
                   try clear hfz23_8
                   try clear hfz23_9
                   try clear hfz32_0
                   try clear hfz32_1
                   try clear hfz32_10
                   try clear hfz32_11
                   try clear hfz32_12
                   try clear hfz32_13
                   try clear hfz32_14
                   try clear hfz32_15
                   try clear hfz32_16
                   try clear hfz32_17
                   try clear hfz32_18
                   try clear hfz32_19
                   try clear hfz32_2
                   try clear hfz32_20
                   try clear hfz32_3
                   try clear hfz32_4
                   try clear hfz32_5
                   try clear hfz32_6
                   try clear hfz32_7
                   try clear hfz32_8
                   try clear hfz32_9
                   try clear hfz37_0
                   try clear hfz37_1
                   try clear hfz37_10
                   try clear hfz37_11
                   try clear hfz37_12
                   try clear hfz37_13
                   try clear hfz37_14
                   try clear hfz37_15
                   try clear hfz37_16
                   try clear hfz37_17
                   try clear hfz37_18
                   try clear hfz37_19
                   try clear hfz37_2
                   try clear hfz37_20
                   try clear hfz37_3
                   try clear hfz37_4
                   try clear hfz37_5
                   try clear hfz37_6
                   try clear hfz37_7
                   try clear hfz37_8
                   try clear hfz37_9
                   try clear hfz50_0
                   try clear hfz50_1
                   try clear hfz50_2
                   try clear hfz55_0
                   try clear hfz55_1
                   try clear hfz55_2
                   try clear hfz57_0
                   try clear hfz57_1
                   try clear hfz57_2
                   try clear hfz63_0
                   try clear hfz63_1
                   try clear hfz63_2
                   try clear hfz64_0
                   try clear hfz64_1
                   try clear hfz64_10
                   try clear hfz64_11
                   try clear hfz64_12
                   try clear hfz64_13
                   try clear hfz64_14
                   try clear hfz64_15
                   try clear hfz64_16
                   try clear hfz64_17
                   try clear hfz64_18
                   try clear hfz64_19
                   try clear hfz64_2
                   try clear hfz64_20
                   try clear hfz64_3
                   try clear hfz64_4
                   try clear hfz64_5
                   try clear hfz64_6
                   try clear hfz64_7
                   try clear hfz64_8
                   try clear hfz64_9
                   try clear hfz65_0
                   try clear hfz65_1
                   try clear hfz65_2
                   try clear hfz72_0
                   try clear hfz72_1
                   try clear hfz72_2
                   try clear hfz77_0
                   try clear hfz77_1
                   try clear hfz77_2
                   try clear hfz84_0
                   try clear hfz84_1
                   try clear hfz84_2
                   try clear hfz88_0
                   try clear hfz88_1
                   try clear hfz88_2
                   try clear hfz93_0
                   try clear hfz93_1
                   try clear hfz93_2
                   try clear hfz97_0
                   try clear hfz97_1
                   try clear hfz97_2
                   try clear p2
                   try clear p6
                   try clear p64
                   obtain ⟨kq, x143_104, rfl, HA, HJ104, BK220, BK221, BK222, BK226, BK227, HB⟩ := hcut
                   cases kq with
                   | zero => exact absurd HA.out (by simp [compositorlaw21_DemPlain.j8])
                   | succ kj104 =>
                    have H := HA.out
                    clear HA
                    simp only [compositorlaw21_DemPlain.j8] at H
                    by_cases c118 : x143_104 = true
                    ·subst c118
                     have H1 : (if x22_46 = true then (if a4_0 = 5 then (if t223 = true then (if x18_38 = true then (some ((wrap64 ((wrap64 (x21_97 - a0_16)) - a0_17)) == 0)) else (none)) else (none)) else (if t223 = true then (if x18_38 = true then (some ((wrap64 (x21_97 - a0_16)) == 0)) else (none)) else (none))) else (if t223 = true then (if x18_38 = true then (some ((wrap64 (x21_97 - a0_16)) == 0)) else (none)) else (none))) = some r := by rw [if_pos rfl] at H; exact H
                     clear H
                     have H := H1
                     clear H1
                     by_cases c119 : x22_46 = true
                     ·subst c119
                      have H1 : (if a4_0 = 5 then (if t223 = true then (if x18_38 = true then (some ((wrap64 ((wrap64 (x21_97 - a0_16)) - a0_17)) == 0)) else (none)) else (none)) else (if t223 = true then (if x18_38 = true then (some ((wrap64 (x21_97 - a0_16)) == 0)) else (none)) else (none))) = some r := by rw [if_pos rfl] at H; exact H
                      clear H
                      have H := H1
                      clear H1
                      by_cases c120 : a4_0 = 5
                      ·rw [if_pos c120] at H
                       have c120b0 : (a4_0 == 5) = true := beq_iff_eq.mpr c120
                       have c120b1 : (a4_0 != 5) = false := bne_eq_false_iff_eq.mpr c120
                       clear c120
                       by_cases c121 : t223 = true
                       ·subst c121
                        have H1 : (if x18_38 = true then (some ((wrap64 ((wrap64 (x21_97 - a0_16)) - a0_17)) == 0)) else (none)) = some r := by rw [if_pos rfl] at H; exact H
                        clear H
                        have H := H1
                        clear H1
                        by_cases c122 : x18_38 = true
                        ·subst c122
                         have H1 : (some ((wrap64 ((wrap64 (x21_97 - a0_16)) - a0_17)) == 0)) = some r := by rw [if_pos rfl] at H; exact H
                         clear H
                         have H := H1
                         clear H1
                         obtain rfl := Option.some.inj H
                         have hnb123 := NB220_221.out
                         have hnc123 := NB221_220.out
                         have hnb124 := NB220_222.out
                         have hnc124 := NB222_220.out
                         have hnb125 := NB220_226.out
                         have hnc125 := NB226_220.out
                         have hnb126 := NB220_227.out
                         have hnc126 := NB227_220.out
                         have hcz127_0 := blk_cell BK220.out
                         have hfz127_0 := blk_frozen BK220.out
                         have hnb128 := NB227_221.out
                         have hnc128 := NB221_227.out
                         have hnb129 := NB227_222.out
                         have hnc129 := NB222_227.out
                         have hnb130 := NB227_226.out
                         have hnc130 := NB226_227.out
                         have hcz131_0 : wc.cell? ⟨gb227, 0, none⟩ = some (.int .i64 a4_0) := (blk_cell BK227.out 0).trans rfl
                         have hcz131_1 : wc.cell? ⟨gb227, 1, none⟩ = some (.int .i64 (Go.bits .and .i64 a4_1 3)) := (blk_cell BK227.out 1).trans rfl
                         have hcz131_2 : wc.cell? ⟨gb227, 2, none⟩ = some (.int .i64 0) := (blk_cell BK227.out 2).trans rfl
                         have hfz131_0 := blk_frozen BK227.out 0
                         have hfz131_1 := blk_frozen BK227.out 1
                         have hfz131_2 := blk_frozen BK227.out 2
                         go_wp2
                         go_ret
                         exact ⟨by first | rfl | (simp [errW_none, errW_some] <;> rfl) | (simp [*, errW_none, errW_some] <;> rfl), by repeat (first | (with_reducible first | exact HB.out | apply below_alloc | apply pw_below_drewN | apply below_drew1 | refine below_set ?_ GE220.out | refine below_set ?_ GE221.out | refine below_set ?_ GE222.out | refine below_set ?_ GE226.out | refine below_set ?_ GE227.out) | exact HB.out)⟩
                        ·replace c122 := Bool.eq_false_iff.mpr c122
                         subst c122
                         have H1 : (none) = some r := by rw [if_neg (show ¬ (false = true) by decide)] at H; exact H
                         clear H
                         have H := H1
                         clear H1
                         exact absurd H (by simp)
                       ·replace c121 := Bool.eq_false_iff.mpr c121
                        subst c121
                        have H1 : (none) = some r := by rw [if_neg (show ¬ (false = true) by decide)] at H; exact H
                        clear H
                        have H := H1
                        clear H1
                        exact absurd H (by simp)
                      ·rw [if_neg c120] at H
                       have c120b0 : (a4_0 == 5) = false := beq_eq_false_iff_ne.mpr c120
                       have c120b1 : (a4_0 != 5) = true := bne_iff_ne.mpr c120
                       by_cases c132 : t223 = true
                       ·subst c132
                        have H1 : (if x18_38 = true then (some ((wrap64 (x21_97 - a0_16)) == 0)) else (none)) = some r := by rw [if_pos rfl] at H; exact H
                        clear H
                        have H := H1
                        clear H1
                        by_cases c133 : x18_38 = true
                        ·subst c133
                         have H1 : (some ((wrap64 (x21_97 - a0_16)) == 0)) = some r := by rw [if_pos rfl] at H; exact H
                         clear H
                         have H := H1
                         clear H1
                         obtain rfl := Option.some.inj H
                         have hnb134 := NB220_221.out
                         have hnc134 := NB221_220.out
                         have hnb135 := NB220_222.out
                         have hnc135 := NB222_220.out
                         have hnb136 := NB220_226.out
                         have hnc136 := NB226_220.out
                         have hnb137 := NB220_227.out
                         have hnc137 := NB227_220.out
                         have hcz138_0 := blk_cell BK220.out
                         have hfz138_0 := blk_frozen BK220.out
                         have hnb139 := NB227_221.out
                         have hnc139 := NB221_227.out
                         have hnb140 := NB227_222.out
                         have hnc140 := NB222_227.out
                         have hnb141 := NB227_226.out
                         have hnc141 := NB226_227.out
                         have hcz142_0 : wc.cell? ⟨gb227, 0, none⟩ = some (.int .i64 a4_0) := (blk_cell BK227.out 0).trans rfl
                         have hcz142_1 : wc.cell? ⟨gb227, 1, none⟩ = some (.int .i64 (Go.bits .and .i64 a4_1 3)) := (blk_cell BK227.out 1).trans rfl
                         have hcz142_2 : wc.cell? ⟨gb227, 2, none⟩ = some (.int .i64 0) := (blk_cell BK227.out 2).trans rfl
                         have hfz142_0 := blk_frozen BK227.out 0
                         have hfz142_1 := blk_frozen BK227.out 1
                         have hfz142_2 := blk_frozen BK227.out 2
                         go_wp2
                         go_ret
                         exact ⟨by first | rfl | (simp [errW_none, errW_some] <;> rfl) | (simp [*, errW_none, errW_some] <;> rfl), by repeat (first | (with_reducible first | exact HB.out | apply below_alloc | apply pw_below_drewN | apply below_drew1 | refine below_set ?_ GE220.out | refine below_set ?_ GE221.out | refine below_set ?_ GE222.out | refine below_set ?_ GE226.out | refine below_set ?_ GE227.out) | exact HB.out)⟩
                        ·replace c133 := Bool.eq_false_iff.mpr c133
                         subst c133
                         have H1 : (none) = some r := by rw [if_neg (show ¬ (false = true) by decide)] at H; exact H
                         clear H
                         have H := H1
                         clear H1
                         exact absurd H (by simp)
                       ·replace c132 := Bool.eq_false_iff.mpr c132
                        subst c132
                        have H1 : (none) = some r := by rw [if_neg (show ¬ (false = true) by decide)] at H; exact H
                        clear H
                        have H := H1
                        clear H1
                        exact absurd H (by simp)
                     ·replace c119 := Bool.eq_false_iff.mpr c119
                      subst c119
                      have H1 : (if t223 = true then (if x18_38 = true then (some ((wrap64 (x21_97 - a0_16)) == 0)) else (none)) else (none)) = some r := by rw [if_neg (show ¬ (false = true) by decide)] at H; exact H
                      clear H
                      have H := H1
                      clear H1
                      by_cases c143 : t223 = true
                      ·subst c143
                       have H1 : (if x18_38 = true then (some ((wrap64 (x21_97 - a0_16)) == 0)) else (none)) = some r := by rw [if_pos rfl] at H; exact H
                       clear H
                       have H := H1
                       clear H1
                       by_cases c144 : x18_38 = true
                       ·subst c144
                        have H1 : (some ((wrap64 (x21_97 - a0_16)) == 0)) = some r := by rw [if_pos rfl] at H; exact H
                        clear H
                        have H := H1
                        clear H1
                        obtain rfl := Option.some.inj H
                        have hnb145 := NB220_221.out
                        have hnc145 := NB221_220.out
                        have hnb146 := NB220_222.out
                        have hnc146 := NB222_220.out
                        have hnb147 := NB220_226.out
                        have hnc147 := NB226_220.out
                        have hnb148 := NB220_227.out
                        have hnc148 := NB227_220.out
                        have hcz149_0 := blk_cell BK220.out
                        have hfz149_0 := blk_frozen BK220.out
                        go_wp2
                        go_ret
                        exact ⟨by first | rfl | (simp [errW_none, errW_some] <;> rfl) | (simp [*, errW_none, errW_some] <;> rfl), by repeat (first | (with_reducible first | exact HB.out | apply below_alloc | apply pw_below_drewN | apply below_drew1 | refine below_set ?_ GE220.out | refine below_set ?_ GE221.out | refine below_set ?_ GE222.out | refine below_set ?_ GE226.out | refine below_set ?_ GE227.out) | exact HB.out)⟩
                       ·replace c144 := Bool.eq_false_iff.mpr c144
                        subst c144
                        have H1 : (none) = some r := by rw [if_neg (show ¬ (false = true) by decide)] at H; exact H
                        clear H
                        have H := H1
                        clear H1
                        exact absurd H (by simp)
                      ·replace c143 := Bool.eq_false_iff.mpr c143
                       subst c143
                       have H1 : (none) = some r := by rw [if_neg (show ¬ (false = true) by decide)] at H; exact H
                       clear H
                       have H := H1
                       clear H1
                       exact absurd H (by simp)
                    ·replace c118 := Bool.eq_false_iff.mpr c118
                     subst c118
                     have H1 : (if x22_46 = true then (if a4_0 = 5 then (if t223 = true then (if x18_38 = true then (some ((wrap64 (x21_97 - a0_17)) == 0)) else (none)) else (none)) else (if t223 = true then (if x18_38 = true then (some (x21_97 == 0)) else (none)) else (none))) else (if t223 = true then (if x18_38 = true then (some (x21_97 == 0)) else (none)) else (none))) = some r := by rw [if_neg (show ¬ (false = true) by decide)] at H; exact H
                     clear H
                     have H := H1
                     clear H1
                     by_cases c150 : x22_46 = true
                     ·subst c150
                      have H1 : (if a4_0 = 5 then (if t223 = true then (if x18_38 = true then (some ((wrap64 (x21_97 - a0_17)) == 0)) else (none)) else (none)) else (if t223 = true then (if x18_38 = true then (some (x21_97 == 0)) else (none)) else (none))) = some r := by rw [if_pos rfl] at H; exact H
                      clear H
                      have H := H1
                      clear H1
                      by_cases c151 : a4_0 = 5
                      ·rw [if_pos c151] at H
                       have c151b0 : (a4_0 == 5) = true := beq_iff_eq.mpr c151
                       have c151b1 : (a4_0 != 5) = false := bne_eq_false_iff_eq.mpr c151
                       clear c151
                       by_cases c152 : t223 = true
                       ·subst c152
                        have H1 : (if x18_38 = true then (some ((wrap64 (x21_97 - a0_17)) == 0)) else (none)) = some r := by rw [if_pos rfl] at H; exact H
                        clear H
                        have H := H1
                        clear H1
                        by_cases c153 : x18_38 = true
                        ·subst c153
                         have H1 : (some ((wrap64 (x21_97 - a0_17)) == 0)) = some r := by rw [if_pos rfl] at H; exact H
                         clear H
                         have H := H1
                         clear H1
                         obtain rfl := Option.some.inj H
                         have hnb154 := NB227_220.out
                         have hnc154 := NB220_227.out
                         have hnb155 := NB227_221.out
                         have hnc155 := NB221_227.out
                         have hnb156 := NB227_222.out
                         have hnc156 := NB222_227.out
                         have hnb157 := NB227_226.out
                         have hnc157 := NB226_227.out
                         have hcz158_0 : wc.cell? ⟨gb227, 0, none⟩ = some (.int .i64 a4_0) := (blk_cell BK227.out 0).trans rfl
                         have hcz158_1 : wc.cell? ⟨gb227, 1, none⟩ = some (.int .i64 (Go.bits .and .i64 a4_1 3)) := (blk_cell BK227.out 1).trans rfl
                         have hcz158_2 : wc.cell? ⟨gb227, 2, none⟩ = some (.int .i64 0) := (blk_cell BK227.out 2).trans rfl
                         have hfz158_0 := blk_frozen BK227.out 0
                         have hfz158_1 := blk_frozen BK227.out 1
                         have hfz158_2 := blk_frozen BK227.out 2
                         have hnb159 := NB220_221.out
                         have hnc159 := NB221_220.out
                         have hnb160 := NB220_222.out
                         have hnc160 := NB222_220.out
                         have hnb161 := NB220_226.out
                         have hnc161 := NB226_220.out
                         have hcz162_0 := blk_cell BK220.out
                         have hfz162_0 := blk_frozen BK220.out
                         go_wp2
                         go_ret
                         exact ⟨by first | rfl | (simp [errW_none, errW_some] <;> rfl) | (simp [*, errW_none, errW_some] <;> rfl), by repeat (first | (with_reducible first | exact HB.out | apply below_alloc | apply pw_below_drewN | apply below_drew1 | refine below_set ?_ GE220.out | refine below_set ?_ GE221.out | refine below_set ?_ GE222.out | refine below_set ?_ GE226.out | refine below_set ?_ GE227.out) | exact HB.out)⟩
                        ·replace c153 := Bool.eq_false_iff.mpr c153
                         subst c153
                         have H1 : (none) = some r := by rw [if_neg (show ¬ (false = true) by decide)] at H; exact H
                         clear H
                         have H := H1
                         clear H1
                         exact absurd H (by simp)
                       ·replace c152 := Bool.eq_false_iff.mpr c152
                        subst c152
                        have H1 : (none) = some r := by rw [if_neg (show ¬ (false = true) by decide)] at H; exact H
                        clear H
                        have H := H1
                        clear H1
                        exact absurd H (by simp)
                      ·rw [if_neg c151] at H
                       have c151b0 : (a4_0 == 5) = false := beq_eq_false_iff_ne.mpr c151
                       have c151b1 : (a4_0 != 5) = true := bne_iff_ne.mpr c151
                       by_cases c163 : t223 = true
                       ·subst c163
                        have H1 : (if x18_38 = true then (some (x21_97 == 0)) else (none)) = some r := by rw [if_pos rfl] at H; exact H
                        clear H
                        have H := H1
                        clear H1
                        by_cases c164 : x18_38 = true
                        ·subst c164
                         have H1 : (some (x21_97 == 0)) = some r := by rw [if_pos rfl] at H; exact H
                         clear H
                         have H := H1
                         clear H1
                         obtain rfl := Option.some.inj H
                         have hnb165 := NB227_220.out
                         have hnc165 := NB220_227.out
                         have hnb166 := NB227_221.out
                         have hnc166 := NB221_227.out
                         have hnb167 := NB227_222.out
                         have hnc167 := NB222_227.out
                         have hnb168 := NB227_226.out
                         have hnc168 := NB226_227.out
                         have hcz169_0 : wc.cell? ⟨gb227, 0, none⟩ = some (.int .i64 a4_0) := (blk_cell BK227.out 0).trans rfl
                         have hcz169_1 : wc.cell? ⟨gb227, 1, none⟩ = some (.int .i64 (Go.bits .and .i64 a4_1 3)) := (blk_cell BK227.out 1).trans rfl
                         have hcz169_2 : wc.cell? ⟨gb227, 2, none⟩ = some (.int .i64 0) := (blk_cell BK227.out 2).trans rfl
                         have hfz169_0 := blk_frozen BK227.out 0
                         have hfz169_1 := blk_frozen BK227.out 1
                         have hfz169_2 := blk_frozen BK227.out 2
                         go_wp2
                         go_ret
                         exact ⟨by first | rfl | (simp [errW_none, errW_some] <;> rfl) | (simp [*, errW_none, errW_some] <;> rfl), by repeat (first | (with_reducible first | exact HB.out | apply below_alloc | apply pw_below_drewN | apply below_drew1 | refine below_set ?_ GE220.out | refine below_set ?_ GE221.out | refine below_set ?_ GE222.out | refine below_set ?_ GE226.out | refine below_set ?_ GE227.out) | exact HB.out)⟩
                        ·replace c164 := Bool.eq_false_iff.mpr c164
                         subst c164
                         have H1 : (none) = some r := by rw [if_neg (show ¬ (false = true) by decide)] at H; exact H
                         clear H
                         have H := H1
                         clear H1
                         exact absurd H (by simp)
                       ·replace c163 := Bool.eq_false_iff.mpr c163
                        subst c163
                        have H1 : (none) = some r := by rw [if_neg (show ¬ (false = true) by decide)] at H; exact H
                        clear H
                        have H := H1
                        clear H1
                        exact absurd H (by simp)
                     ·replace c150 := Bool.eq_false_iff.mpr c150
                      subst c150
                      have H1 : (if t223 = true then (if x18_38 = true then (some (x21_97 == 0)) else (none)) else (none)) = some r := by rw [if_neg (show ¬ (false = true) by decide)] at H; exact H
                      clear H
                      have H := H1
                      clear H1
                      by_cases c170 : t223 = true
                      ·subst c170
                       have H1 : (if x18_38 = true then (some (x21_97 == 0)) else (none)) = some r := by rw [if_pos rfl] at H; exact H
                       clear H
                       have H := H1
                       clear H1
                       by_cases c171 : x18_38 = true
                       ·subst c171
                        have H1 : (some (x21_97 == 0)) = some r := by rw [if_pos rfl] at H; exact H
                        clear H
                        have H := H1
                        clear H1
                        obtain rfl := Option.some.inj H
                        go_wp2
                        go_ret
                        exact ⟨by first | rfl | (simp [errW_none, errW_some] <;> rfl) | (simp [*, errW_none, errW_some] <;> rfl), by repeat (first | (with_reducible first | exact HB.out | apply below_alloc | apply pw_below_drewN | apply below_drew1 | refine below_set ?_ GE220.out | refine below_set ?_ GE221.out | refine below_set ?_ GE222.out | refine below_set ?_ GE226.out | refine below_set ?_ GE227.out) | exact HB.out)⟩
                       ·replace c171 := Bool.eq_false_iff.mpr c171
                        subst c171
                        have H1 : (none) = some r := by rw [if_neg (show ¬ (false = true) by decide)] at H; exact H
                        clear H
                        have H := H1
                        clear H1
                        exact absurd H (by simp)
                      ·replace c170 := Bool.eq_false_iff.mpr c170
                       subst c170
                       have H1 : (none) = some r := by rw [if_neg (show ¬ (false = true) by decide)] at H; exact H
                       clear H
                       have H := H1
                       clear H1
                       exact absurd H (by simp)

end Go.Proofs.Ytejpnfaaboicdaa.G
