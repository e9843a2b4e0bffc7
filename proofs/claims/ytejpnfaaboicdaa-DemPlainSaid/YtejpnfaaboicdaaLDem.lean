/- Demerits in closed form: the program's and the reference's. -/
import Derived.Test.YtejpnfaaboicdaaLLay
import Derived.OpenShut
import Derived.Test.YtejpnfaaboicdaaGx4
import Derived.Test.YtejpnfaaboicdaaGx6
import Derived.Test.YtejpnfaaboicdaaGx5
import Derived.Test.YtejpnfaaboicdaaGx12
import Derived.Test.YtejpnfaaboicdaaGx15
import Derived.Test.YtejpnfaaboicdaaGx13
namespace Go.Proofs.Ytejpnfaaboicdaa.L
open Go.RowKit Go.Proofs.Ytejpnfaaboicdaa.G Go.Proofs.YtejpnfaaboicdaaMy Go.Proofs.YtejpnfaaboicdaaW.PrintWords Go.Proofs.YtejpnfaaboicdaaW.PrintLast Go.Proofs.YtejpnfaaboicdaaW.PrintMore
set_option linter.unusedVariables false
set_option linter.unusedSimpArgs false
def pen (h d kind : Int) : Int := if kind = 2 ∨ kind = 3 then h else if kind = 4 then d else 0
theorem pen_b {h d kind : Int} (hh : -1000 ≤ h ∧ h ≤ 1000) (hd : -1000 ≤ d ∧ d ≤ 1000) : -1000 ≤ pen h d kind ∧ pen h d kind ≤ 1000 := by
  unfold pen
  split
  · exact hh
  · split
    · exact hd
    · omega
theorem penalty_f (k : Nat) (x0 x1 x2 x3 : Int) (l : List S47) (x5 x6 x7 x8 x9 x10 x11 x12 x13 x14 x15 x16 x17 x18 x19 x20 : Int) (kind : Int) : para_Penalty.f (k + 1) x0 x1 x2 x3 l x5 x6 x7 x8 x9 x10 x11 x12 x13 x14 x15 x16 x17 x18 x19 x20 kind 0 0 = some (pen x13 x14 kind) := by
  unfold para_Penalty.f pen
  by_cases h2 : kind = 2
  · subst h2; rfl
  · rw [if_neg h2, para_Penalty.j0]
    by_cases h3 : kind = 3
    · subst h3; rfl
    · by_cases h4 : kind = 4
      · subst h4; rfl
      · simp [h2, h3, h4]
theorem rpenalty_f (k : Nat) (x0 x1 x2 x3 : Int) (l : List S47) (x5 x6 x7 x8 x9 x10 x11 x12 x13 x14 x15 x16 x17 x18 x19 x20 : Int) (kind : Int) : compositorref16_Penalty.f (k + 1) x0 x1 x2 x3 l x5 x6 x7 x8 x9 x10 x11 x12 x13 x14 x15 x16 x17 x18 x19 x20 kind 0 0 = some (pen x13 x14 kind) := by
  unfold compositorref16_Penalty.f pen
  by_cases h2 : kind = 2
  · subst h2; rfl
  · rw [if_neg h2, compositorref16_Penalty.j0]
    by_cases h3 : kind = 3
    · subst h3; rfl
    · by_cases h4 : kind = 4
      · subst h4; rfl
      · simp [h2, h3, h4]
/-- A number's square with its sign. -/
def sq (n : Int) : Int := if n < 0 then -(n * n) else n * n
theorem sq_b {n m : Int} (hm : 0 ≤ m) (h : -m ≤ n ∧ n ≤ m) : -(m * m) ≤ sq n ∧ sq n ≤ m * m := by
  unfold sq
  have h1 : n * n ≤ m * m := by
    by_cases h0 : 0 ≤ n
    · exact Int.mul_le_mul h.2 h.2 h0 hm
    · have : (-n) * (-n) ≤ m * m := Int.mul_le_mul (by omega) (by omega) (by omega) hm
      rwa [Int.neg_mul_neg] at this
  have h2 : 0 ≤ n * n := by
    by_cases h0 : 0 ≤ n
    · exact Int.mul_nonneg h0 h0
    · have : 0 ≤ (-n) * (-n) := Int.mul_nonneg (by omega) (by omega)
      rwa [Int.neg_mul_neg] at this
  split <;> omega
theorem square_f (n : Int) (h : -11000 ≤ n ∧ n ≤ 11000) : dem_square.f n = some (sq n) := by
  unfold dem_square.f sq mx
  have hb := sq_b (n := n) (m := 11000) (by omega) h
  unfold sq at hb
  rw [wrap_in (n := -n) (by omega) (by omega)]
  by_cases h0 : n < 0
  · rw [if_pos h0] at hb
    rw [if_pos (by omega), if_pos h0, Int.mul_neg, wrap_in (by omega) (by omega)]
  · rw [if_neg h0] at hb
    rw [if_neg (by omega), if_neg h0, wrap_in (by omega) (by omega)]
def ownV (p h d bad kind : Int) : Int := sq (p + bad) + sq (pen h d kind)
theorem own_yes (k : Nat) (x0 x1 x2 x3 : Int) (l : List S47) (x5 x6 x7 x8 x9 x10 x11 x12 x13 x14 x15 x16 x17 x18 x19 x20 : Int) (bad kind : Int) (h : okLay x0 x1 x2 x3 l x5 x6 x7 x8 x9 x10 x11 x12 x13 x14 x15 x16 x17 x18 x19 x20 = true) (h0 : 0 ≤ bad) (h1 : bad ≤ 10000) : dem_Own.f (k + 2) x0 x1 x2 x3 l x5 x6 x7 x8 x9 x10 x11 x12 x13 x14 x15 x16 x17 x18 x19 x20 bad kind = some (ownV x12 x13 x14 bad kind) := by
  have hb := okLay_iff x0 x1 x2 x3 l x5 x6 x7 x8 x9 x10 x11 x12 x13 x14 x15 x16 x17 x18 x19 x20 h
  unfold dem_Own.f ownV
  rw [pcheck, h]
  simp only [Option.bind_some]
  rw [if_pos trivial, if_neg (by omega), dem_Own.j0, show decide (bad > 10000) = false by simp; omega, if_neg (show ¬ (false = true) by simp)]
  rw [penalty_f]
  have hp := pen_b (kind := kind) hb.b13 hb.b14
  have h12 := hb.b12
  rw [wrap_in (n := x12 + bad) (by omega) (by omega), square_f _ (by omega)]
  simp only [Option.bind_some]
  rw [square_f _ (by omega)]
  simp only [Option.bind_some]
  have e1 := sq_b (n := x12 + bad) (m := 11000) (by omega) (by omega)
  have e2 := sq_b (n := pen x13 x14 kind) (m := 1000) (by omega) (by omega)
  rw [wrap_in (by omega) (by omega)]
theorem own_no (k : Nat) (x0 x1 x2 x3 : Int) (l : List S47) (x5 x6 x7 x8 x9 x10 x11 x12 x13 x14 x15 x16 x17 x18 x19 x20 : Int) (bad kind : Int) (h : okLay x0 x1 x2 x3 l x5 x6 x7 x8 x9 x10 x11 x12 x13 x14 x15 x16 x17 x18 x19 x20 = false ∨ bad < 0 ∨ 10000 < bad) : dem_Own.f (k + 1) x0 x1 x2 x3 l x5 x6 x7 x8 x9 x10 x11 x12 x13 x14 x15 x16 x17 x18 x19 x20 bad kind = some 0 := by
  unfold dem_Own.f
  rw [pcheck]
  simp only [Option.bind_some]
  by_cases hok : okLay x0 x1 x2 x3 l x5 x6 x7 x8 x9 x10 x11 x12 x13 x14 x15 x16 x17 x18 x19 x20 = true
  · rw [if_pos hok]
    by_cases h0 : bad < 0
    · rw [if_pos h0]; rfl
    · have h1 : bad > 10000 := by
        rcases h with h | h | h
        · rw [hok] at h; cases h
        · omega
        · exact h
      rw [if_neg h0, show decide (bad > 10000) = true by simp; omega]
      rfl
  · rw [if_neg hok]; rfl
theorem sq_mul (n : Int) (h : 0 ≤ n) : n * n = sq n := by unfold sq; rw [if_neg (by omega)]
theorem rown_yes (k : Nat) (x0 x1 x2 x3 : Int) (l : List S47) (x5 x6 x7 x8 x9 x10 x11 x12 x13 x14 x15 x16 x17 x18 x19 x20 : Int) (bad kind : Int) (h : okLay x0 x1 x2 x3 l x5 x6 x7 x8 x9 x10 x11 x12 x13 x14 x15 x16 x17 x18 x19 x20 = true) (h0 : 0 ≤ bad) (h1 : bad ≤ 10000) : compositorref21_Own.f (k + l.length + 6) x0 x1 x2 x3 l x5 x6 x7 x8 x9 x10 x11 x12 x13 x14 x15 x16 x17 x18 x19 x20 bad kind = some (ownV x12 x13 x14 bad kind) := by
  have hb := okLay_iff x0 x1 x2 x3 l x5 x6 x7 x8 x9 x10 x11 x12 x13 x14 x15 x16 x17 x18 x19 x20 h
  unfold compositorref21_Own.f ownV
  rw [rcheck, h]
  simp only [Option.bind_some]
  rw [if_pos trivial, if_neg (by omega), if_neg (by omega)]
  unfold compositorref21_Of.f
  rw [rpenalty_f]
  simp only [Option.bind_some]
  have hp := pen_b (kind := kind) hb.b13 hb.b14
  have h12 := hb.b12
  have e1 := sq_b (n := x12 + bad) (m := 11000) (by omega) (by omega)
  have e2 := sq_b (n := pen x13 x14 kind) (m := 1000) (by omega) (by omega)
  rw [wrap_in (n := x12 + bad) (by omega) (by omega), sq_mul (x12 + bad) (by omega), wrap_in (n := sq (x12 + bad)) (by omega) (by omega)]
  by_cases hn : pen x13 x14 kind < 0
  · have e3 : pen x13 x14 kind * pen x13 x14 kind = -sq (pen x13 x14 kind) := by unfold sq; rw [if_pos hn]; omega
    rw [if_pos hn, e3, wrap_in (n := -sq (pen x13 x14 kind)) (by omega) (by omega), wrap_in (by omega) (by omega)]
    simp only [Option.bind_some]
    congr 1
    omega
  · rw [if_neg hn, sq_mul (pen x13 x14 kind) (by omega), wrap_in (n := sq (pen x13 x14 kind)) (by omega) (by omega), wrap_in (by omega) (by omega)]
    rfl
theorem rown_no (k : Nat) (x0 x1 x2 x3 : Int) (l : List S47) (x5 x6 x7 x8 x9 x10 x11 x12 x13 x14 x15 x16 x17 x18 x19 x20 : Int) (bad kind : Int) (h : okLay x0 x1 x2 x3 l x5 x6 x7 x8 x9 x10 x11 x12 x13 x14 x15 x16 x17 x18 x19 x20 = false ∨ bad < 0 ∨ 10000 < bad) : compositorref21_Own.f (k + l.length + 6) x0 x1 x2 x3 l x5 x6 x7 x8 x9 x10 x11 x12 x13 x14 x15 x16 x17 x18 x19 x20 bad kind = some 0 := by
  unfold compositorref21_Own.f
  rw [rcheck]
  simp only [Option.bind_some]
  by_cases hok : okLay x0 x1 x2 x3 l x5 x6 x7 x8 x9 x10 x11 x12 x13 x14 x15 x16 x17 x18 x19 x20 = true
  · rw [if_pos hok]
    by_cases h0 : bad < 0
    · rw [if_pos h0]
    · have h1 : bad > 10000 := by
        rcases h with h | h | h
        · rw [hok] at h; cases h
        · omega
        · exact h
      rw [if_neg h0, if_pos h1]
  · rw [if_neg hok]
def hyB (kind : Int) : Bool := kind == 2 || kind == 3
theorem hy_f (kind : Int) : dem_hyphen.f kind = some (hyB kind) := by
  unfold dem_hyphen.f hyB
  by_cases h : kind = 2
  · subst h; rfl
  · simp [h]
theorem rhy_f (kind : Int) : compositorref21_hyphen.f kind = some (hyB kind) := by
  unfold compositorref21_hyphen.f hyB
  by_cases h : kind = 2
  · subst h; rfl
  · simp [h]
def runV (run : Int) : Int := if 4 ≤ run then 4 else if 1 ≤ run then run + 1 else 1
def nextV (br kind class_ : Int) : Int × Int × Int := if hyB kind = true then (kind, class_, runV br) else (kind, class_, 0)
theorem next_f (bk bc br kind class_ : Int) : dem_Next.f bk bc br kind class_ = some (nextV br kind class_) := by
  unfold dem_Next.f nextV
  rw [hy_f]
  simp only [Option.bind_some]
  split
  · congr 3
    unfold runV mx mn
    repeat' split
    all_goals omega
  · rfl
theorem rnext_f (bk bc br kind class_ : Int) (hw : (Lit.int .i64 br).wf = true) : compositorref21_Next.f bk bc br kind class_ = some (nextV br kind class_) := by
  unfold compositorref21_Next.f nextV
  rw [rhy_f]
  simp only [Option.bind_some]
  split
  · unfold runV
    by_cases h4 : br ≥ 4
    · rw [if_pos h4, if_pos h4]
    · rw [if_neg h4, if_neg h4]
      by_cases h1 : br ≥ 1
      · rw [if_pos h1, if_pos h1, wrap_in (by omega) (by omega)]
      · rw [if_neg h1, if_neg h1]
  · rfl
def ladV (run : Int) : Int := if 4 ≤ run then 2 else if run = 3 then 1 else 0
theorem ladder_f (run : Int) : dem_ladder.f run = some (ladV run) := by
  unfold dem_ladder.f ladV
  repeat' split
  all_goals first | rfl | omega
def farB (a b : Int) : Bool := decide (1 < b - a) || decide (1 < a - b)
theorem apart_f (a b : Int) (ha : (Lit.int .i64 a).wf = true) (hb : (Lit.int .i64 b).wf = true) : dem_apart.f a b = some (farB a b) := by
  have h1 := bounds_i64 ha
  have h2 := bounds_i64 hb
  unfold dem_apart.f farB mn mx
  by_cases h : b < a
  · rw [if_pos h]
    have : ¬ a < b := by omega
    rw [if_neg this, if_pos h, wrap_in (by omega) (by omega)]
    congr 1
    by_cases h3 : b + 1 = a
    · simp [h3]; omega
    · have : (b + 1 != a) = true := by simpa using h3
      rw [this]
      simp
      omega
  · rw [if_neg h]
    by_cases h' : a < b
    · rw [if_pos h', if_pos h', wrap_in (by omega) (by omega)]
      congr 1
      by_cases h3 : a + 1 = b
      · simp [h3]; omega
      · have : (a + 1 != b) = true := by simpa using h3
        rw [this]
        simp
        omega
    · rw [if_neg h', if_neg (by omega)]
      simp
      omega
theorem rfar_f (a b : Int) (ha : (Lit.int .i64 a).wf = true) (hb : (Lit.int .i64 b).wf = true) : compositorref21_far.f a b = some (farB a b) := by
  have h1 := bounds_i64 ha
  have h2 := bounds_i64 hb
  unfold compositorref21_far.f farB mn mx
  by_cases h : b < a
  · rw [if_pos h]
    have : ¬ a < b := by omega
    rw [if_neg this, if_pos h, wrap_in (by omega) (by omega)]
    congr 1
    rw [Bool.eq_iff_iff]
    simp
    omega
  · rw [if_neg h]
    by_cases h' : a < b
    · rw [if_pos h', if_pos h', wrap_in (by omega) (by omega)]
      congr 1
      rw [Bool.eq_iff_iff]
      simp
      omega
    · rw [if_neg h', if_neg (by omega)]
      simp
      omega
/-- What two lines cost. -/
def pairV (jump double final river ladder bk bc nk nc nr rivers : Int) : Int :=
  river * rivers + ladder * ladV nr + (if farB bc nc = true then jump else 0) + (if hyB bk = true then (if hyB nk = true then double else if nk = 5 then final else 0) else 0)
theorem ladV_b (r : Int) : 0 ≤ ladV r ∧ ladV r ≤ 2 := by unfold ladV; repeat' split <;> omega
theorem mul_b {a b A B : Int} (ha : 0 ≤ a ∧ a ≤ A) (hb : 0 ≤ b ∧ b ≤ B) : 0 ≤ a * b ∧ a * b ≤ A * B :=
  ⟨Int.mul_nonneg ha.1 hb.1, Int.mul_le_mul ha.2 hb.2 hb.1 (by omega)⟩
theorem first_no (bk bc br : Int) (h : (bk == 0 && (bc == 1 && (br == 0))) = true) : hyB bk = false := by
  simp only [Bool.and_eq_true, beq_iff_eq] at h
  rw [h.1]
  rfl
theorem hy_five (k : Int) (h : hyB k = true) : k ≠ 5 := by
  rintro rfl
  cases h
theorem pair_yes (k : Nat) (x0 x1 x2 x3 : Int) (l : List S47) (x5 x6 x7 x8 x9 x10 x11 x12 x13 x14 x15 x16 x17 x18 x19 x20 : Int) (bk bc br nk nc nr rivers : Int) (h : okLay x0 x1 x2 x3 l x5 x6 x7 x8 x9 x10 x11 x12 x13 x14 x15 x16 x17 x18 x19 x20 = true) (h0 : 0 ≤ rivers) (h1 : rivers ≤ 1000000) (hbc : (Lit.int .i64 bc).wf = true) (hnc : (Lit.int .i64 nc).wf = true) :
    dem_Pair.f (k + 3) x0 x1 x2 x3 l x5 x6 x7 x8 x9 x10 x11 x12 x13 x14 x15 x16 x17 x18 x19 x20 bk bc br nk nc nr rivers = some (pairV x15 x16 x17 x18 x19 bk bc nk nc nr rivers) := by
  have hb := okLay_iff x0 x1 x2 x3 l x5 x6 x7 x8 x9 x10 x11 x12 x13 x14 x15 x16 x17 x18 x19 x20 h
  have h15 := hb.b15
  have h16 := hb.b16
  have h17 := hb.b17
  have e1 := mul_b hb.b18 ⟨h0, h1⟩
  have e2 := mul_b hb.b19 (ladV_b nr)
  unfold dem_Pair.f pairV
  rw [pcheck, h]
  simp only [Option.bind_some]
  rw [if_pos trivial, if_neg (by omega), dem_Pair.j0, show decide (rivers > 1000000) = false by simp; omega, if_neg (show ¬ (false = true) by simp), ladder_f]
  simp only [Option.bind_some]
  rw [apart_f _ _ hbc hnc, wrap_in (n := x18 * rivers) (by omega) (by omega), wrap_in (n := x19 * ladV nr) (by omega) (by omega), wrap_in (n := x18 * rivers + x19 * ladV nr) (by omega) (by omega), wrap_in (n := x18 * rivers + x19 * ladV nr + x15) (by omega) (by omega)]
  simp only [Option.bind_some]
  have key : ∀ d : Int, 0 ≤ d → d ≤ 100000000000 → dem_Pair.j1 (k + 2) d x0 x1 x2 x3 l x5 x6 x7 x8 x9 x10 x11 x12 x13 x14 x15 x16 x17 x18 x19 x20 bk bc br nk nc nr = some (d + (if hyB bk = true then (if hyB nk = true then x16 else if nk = 5 then x17 else 0) else 0)) := by
    intro d hd0 hd1
    rw [dem_Pair.j1]
    unfold dem_First.f
    simp only [Option.bind_some]
    by_cases hf : (bk == 0 && (bc == 1 && (br == 0))) = true
    · rw [if_pos hf, dem_Pair.j2, if_pos rfl, first_no bk bc br hf]
      simp
    · rw [if_neg hf, hy_f]
      simp only [Option.bind_some]
      rw [dem_Pair.j2, hy_f]
      simp only [Option.bind_some]
      cases hyB bk with
      | false => simp
      | true =>
        rw [if_neg (show ¬ ((!true) = true) by simp), if_pos rfl]
        cases hyB nk with
        | true => rw [if_pos rfl, if_pos rfl, wrap_in (by omega) (by omega)]
        | false =>
          simp only [Bool.false_eq_true, if_false]
          by_cases h5 : nk = 5
          · rw [if_pos h5, if_pos h5, wrap_in (by omega) (by omega)]
          · rw [if_neg h5, if_neg h5]
            simp
  cases farB bc nc with
  | true =>
    rw [if_pos rfl, key _ (by omega) (by omega), if_pos rfl]
  | false =>
    rw [if_neg (show ¬ (false = true) by simp), key _ (by omega) (by omega), if_neg (show ¬ (false = true) by simp)]
    simp
theorem pair_no (k : Nat) (x0 x1 x2 x3 : Int) (l : List S47) (x5 x6 x7 x8 x9 x10 x11 x12 x13 x14 x15 x16 x17 x18 x19 x20 : Int) (bk bc br nk nc nr rivers : Int) (h : okLay x0 x1 x2 x3 l x5 x6 x7 x8 x9 x10 x11 x12 x13 x14 x15 x16 x17 x18 x19 x20 = false ∨ rivers < 0 ∨ 1000000 < rivers) : dem_Pair.f (k + 1) x0 x1 x2 x3 l x5 x6 x7 x8 x9 x10 x11 x12 x13 x14 x15 x16 x17 x18 x19 x20 bk bc br nk nc nr rivers = some 0 := by
  unfold dem_Pair.f
  rw [pcheck]
  simp only [Option.bind_some]
  by_cases hok : okLay x0 x1 x2 x3 l x5 x6 x7 x8 x9 x10 x11 x12 x13 x14 x15 x16 x17 x18 x19 x20 = true
  · rw [if_pos hok]
    by_cases h0 : rivers < 0
    · rw [if_pos h0]; rfl
    · have h1 : rivers > 1000000 := by
        rcases h with h | h | h
        · rw [hok] at h; cases h
        · omega
        · exact h
      rw [if_neg h0, show decide (rivers > 1000000) = true by simp; omega]
      rfl
  · rw [if_neg hok]; rfl
theorem rpair_yes (k : Nat) (x0 x1 x2 x3 : Int) (l : List S47) (x5 x6 x7 x8 x9 x10 x11 x12 x13 x14 x15 x16 x17 x18 x19 x20 : Int) (bk bc br nk nc nr rivers : Int) (h : okLay x0 x1 x2 x3 l x5 x6 x7 x8 x9 x10 x11 x12 x13 x14 x15 x16 x17 x18 x19 x20 = true) (h0 : 0 ≤ rivers) (h1 : rivers ≤ 1000000) (hbc : (Lit.int .i64 bc).wf = true) (hnc : (Lit.int .i64 nc).wf = true) :
    compositorref21_Pair.f (k + l.length + 6) x0 x1 x2 x3 l x5 x6 x7 x8 x9 x10 x11 x12 x13 x14 x15 x16 x17 x18 x19 x20 bk bc br nk nc nr rivers = some (pairV x15 x16 x17 x18 x19 bk bc nk nc nr rivers) := by
  have hb := okLay_iff x0 x1 x2 x3 l x5 x6 x7 x8 x9 x10 x11 x12 x13 x14 x15 x16 x17 x18 x19 x20 h
  have h15 := hb.b15
  have h16 := hb.b16
  have h17 := hb.b17
  have h19 := hb.b19
  have e1 := mul_b hb.b18 ⟨h0, h1⟩
  have e2 := mul_b hb.b19 (ladV_b nr)
  unfold compositorref21_Pair.f pairV
  rw [rcheck, h]
  simp only [Option.bind_some]
  rw [if_pos trivial, if_neg (by omega), if_neg (by omega)]
  unfold compositorref21_Both.f
  rw [rfar_f _ _ hbc hnc]
  simp only [Option.bind_some]
  have key : ∀ d : Int, 0 ≤ d → d ≤ 100000000000 → compositorref21_Both.j0 (k + l.length + 6) d x0 x1 x2 x3 l x5 x6 x7 x8 x9 x10 x11 x12 x13 x14 x15 x16 x17 x18 x19 x20 bk bc br nk nc nr = some (d + (if hyB bk = true then (if hyB nk = true then x16 else if nk = 5 then x17 else 0) else 0) + x19 * ladV nr) := by
    intro d hd0 hd1
    have last : ∀ d : Int, 0 ≤ d → d ≤ 200000000000 → compositorref21_Both.j4 (k + l.length + 2) d x0 x1 x2 x3 l x5 x6 x7 x8 x9 x10 x11 x12 x13 x14 x15 x16 x17 x18 x19 x20 nk nc nr = some (d + x19 * ladV nr) := by
      intro d hd0 hd1
      rw [compositorref21_Both.j4]
      unfold ladV
      by_cases h3 : nr = 3
      · subst h3
        rw [if_pos rfl, if_neg (by omega), if_neg (by omega), if_pos rfl, wrap_in (by omega) (by omega)]
        simp
      · rw [if_neg h3]
        by_cases h4 : nr ≥ 4
        · rw [if_pos h4, if_pos h4, wrap_in (n := 2 * x19) (by omega) (by omega), wrap_in (by omega) (by omega)]
          congr 1
          omega
        · rw [if_neg h4, if_neg h4, if_neg h3]
          simp
    have l3 : ∀ (d : Int) (b : Bool), 0 ≤ d → d ≤ 150000000000 → compositorref21_Both.j3 (k + l.length + 3) d b x0 x1 x2 x3 l x5 x6 x7 x8 x9 x10 x11 x12 x13 x14 x15 x16 x17 x18 x19 x20 nk nc nr = some (d + (if b = true then x17 else 0) + x19 * ladV nr) := by
      intro d b hd0 hd1
      rw [compositorref21_Both.j3]
      cases b with
      | true => rw [if_pos rfl, wrap_in (by omega) (by omega), last _ (by omega) (by omega), if_pos rfl]
      | false => rw [if_neg (show ¬ (false = true) by simp), last _ (by omega) (by omega), if_neg (show ¬ (false = true) by simp)]; simp
    have l2 : ∀ (d : Int), 0 ≤ d → d ≤ 140000000000 → compositorref21_Both.j2 (k + l.length + 4) d x0 x1 x2 x3 l x5 x6 x7 x8 x9 x10 x11 x12 x13 x14 x15 x16 x17 x18 x19 x20 bk bc br nk nc nr = some (d + (if hyB bk = true then (if nk = 5 then x17 else 0) else 0) + x19 * ladV nr) := by
      intro d hd0 hd1
      rw [compositorref21_Both.j2, rhy_f]
      simp only [Option.bind_some]
      cases hyB bk with
      | true =>
        rw [if_pos rfl, l3 _ _ (by omega) (by omega), if_pos rfl]
        by_cases h5 : nk = 5 <;> simp [h5]
      | false => rw [if_neg (show ¬ (false = true) by simp), l3 _ _ (by omega) (by omega), if_neg (show ¬ (false = true) by simp), if_neg (show ¬ (false = true) by simp)]
    rw [compositorref21_Both.j0, rhy_f, rhy_f]
    simp only [Option.bind_some]
    rw [compositorref21_Both.j1, compositorref21_Both.j1]
    cases hk : hyB bk with
    | false => rw [if_neg (show ¬ (false = true) by simp), if_neg (show ¬ (false = true) by simp), l2 _ (by omega) (by omega), hk]; simp
    | true =>
      rw [if_pos rfl, if_pos rfl]
      cases hn : hyB nk with
      | true =>
        rw [if_pos rfl, wrap_in (by omega) (by omega), l2 _ (by omega) (by omega), hk, if_pos rfl, if_pos rfl, if_neg (hy_five nk hn)]
        simp
      | false => rw [if_neg (show ¬ (false = true) by simp), l2 _ (by omega) (by omega), hk, if_pos rfl, if_neg (show ¬ (false = true) by simp)]
  rw [wrap_in (n := x18 * rivers) (by omega) (by omega)]
  cases farB bc nc with
  | true =>
    rw [if_pos rfl, wrap_in (by omega) (by omega), key _ (by omega) (by omega), if_pos rfl]
    simp only [Option.bind_some]
    congr 1
    omega
  | false =>
    rw [if_neg (show ¬ (false = true) by simp), key _ (by omega) (by omega), if_neg (show ¬ (false = true) by simp)]
    simp only [Option.bind_some]
    congr 1
    omega
theorem rpair_no (k : Nat) (x0 x1 x2 x3 : Int) (l : List S47) (x5 x6 x7 x8 x9 x10 x11 x12 x13 x14 x15 x16 x17 x18 x19 x20 : Int) (bk bc br nk nc nr rivers : Int) (h : okLay x0 x1 x2 x3 l x5 x6 x7 x8 x9 x10 x11 x12 x13 x14 x15 x16 x17 x18 x19 x20 = false ∨ rivers < 0 ∨ 1000000 < rivers) : compositorref21_Pair.f (k + l.length + 6) x0 x1 x2 x3 l x5 x6 x7 x8 x9 x10 x11 x12 x13 x14 x15 x16 x17 x18 x19 x20 bk bc br nk nc nr rivers = some 0 := by
  unfold compositorref21_Pair.f
  rw [rcheck]
  simp only [Option.bind_some]
  by_cases hok : okLay x0 x1 x2 x3 l x5 x6 x7 x8 x9 x10 x11 x12 x13 x14 x15 x16 x17 x18 x19 x20 = true
  · rw [if_pos hok]
    by_cases h0 : rivers < 0
    · rw [if_pos h0]
    · have h1 : rivers > 1000000 := by
        rcases h with h | h | h
        · rw [hok] at h; cases h
        · omega
        · exact h
      rw [if_neg h0, if_pos h1]
  · rw [if_neg hok]
end Go.Proofs.Ytejpnfaaboicdaa.L
