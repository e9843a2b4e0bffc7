/- What the document's answer of layer 6 is, as plain lists of numbers. -/
import Derived.Test.YtihiiidbhhlfnaaLPack
import Derived.Test.YtihiiidbhhlfnaaGx15
import Derived.Test.YtihiiidbhhlfnaaGx19
namespace Go.Proofs.Ytihiiidbhhlfnaa.L
open Go.RowKit Go.Proofs.Ytihiiidbhhlfnaa.G Go.Proofs.YtihiiidbhhlfnaaW.PrintWords Go.Proofs.YtihiiidbhhlfnaaW.PrintLast Go.Proofs.YtihiiidbhhlfnaaW.PrintMore
set_option linter.unusedVariables false
set_option linter.unusedSimpArgs false

theorem pow_le {z : Nat} (h : z ≤ 4) : (0 : Int) < 256 ^ z ∧ (256 : Int) ^ z ≤ 4294967296 := by
  have : z = 0 ∨ z = 1 ∨ z = 2 ∨ z = 3 ∨ z = 4 := by omega
  rcases this with rfl | rfl | rfl | rfl | rfl <;> decide
theorem power_l0 (z : Nat) (hz : z ≤ 4) : ∀ (d k i : Nat), i + d = z → compositorref06_power.l0 (k + d + 1) z (256 ^ i) i = some (256 ^ z) := by
  intro d
  induction d with
  | zero =>
    intro k i hi
    rw [compositorref06_power.l0, if_neg (by omega)]
    rw [show i = z by omega]
  | succ d ih =>
    intro k i hi
    have hp := pow_le (z := i + 1) (by omega)
    have e1 : wrap64 (256 * 256 ^ i) = 256 ^ (i + 1) := by
      rw [show (256 : Int) * 256 ^ i = 256 ^ (i + 1) by rw [Int.pow_succ, Int.mul_comm], w64 (by omega) (by omega)]
    have e4 : wrap64 ((i : Int) + 1) = ((i + 1 : Nat) : Int) := by rw [w64 (by omega) (by omega)]; omega
    rw [show k + (d + 1) + 1 = (k + d + 1) + 1 by omega, compositorref06_power.l0, if_pos (by omega), e1, e4]
    exact ih k (i + 1) (by omega)
theorem power_ok (k z : Nat) (hz : z ≤ 4) : compositorref06_power.f (k + 5) z = some (256 ^ z) := by
  unfold compositorref06_power.f
  rw [show k + 5 = (k + (4 - z)) + z + 1 by omega]
  exact power_l0 z hz z _ 0 (by omega)
theorem rput_l0 (n : Int) (h0 : 0 ≤ n) (hn : n < 4294967296) (z : Nat) (hz : z ≤ 4) : ∀ (d : Nat) (k : Nat) (i : Int) (l : List Int), 0 ≤ i → i + d = z → l.length + d < 140737488355328 →
    compositorref06_Put.l0 (k + 5 + d + 1) n z l i = some (l ++ be n d, 0) := by
  intro d
  induction d with
  | zero =>
    intro k i l _ hi hl
    rw [compositorref06_Put.l0, if_neg (by omega)]
    simp [be]
  | succ d ih =>
    intro k i l hi0 hi hl
    have hp := pow_le (z := d) (by omega)
    have hdd : Int.tdiv n (256 ^ d) = n / 256 ^ d := Int.tdiv_eq_ediv_of_nonneg h0
    have hdn : 0 ≤ n / 256 ^ d := Int.ediv_nonneg h0 (Int.le_of_lt hp.1)
    have hdl : n / 256 ^ d ≤ n := Int.ediv_le_self _ h0
    have e1 : wrap64 ((z : Int) - 1) = (z : Int) - 1 := w64 (by omega) (by omega)
    have e2 : wrap64 ((z : Int) - 1 - i) = (d : Int) := by rw [w64 (by omega) (by omega)]; omega
    have e4 : wrap64 (i + 1) = i + 1 := w64 (by omega) (by omega)
    have e5 : Int.tmod (wrap64 (Int.tdiv n (256 ^ d))) 256 % 256 = n / 256 ^ d % 256 := by
      rw [hdd, w64 (by omega) (by omega), Int.tmod_eq_emod_of_nonneg hdn]
      omega
    rw [show k + 5 + (d + 1) + 1 = (k + 5 + d + 1) + 1 by omega, compositorref06_Put.l0, if_pos (by omega), e1, e2, show k + 5 + d + 1 = (k + d + 1) + 5 by omega, power_ok _ d (by omega)]
    simp only [Option.bind_some]
    rw [if_neg (by omega), if_pos (by omega), e4, e5, show (k + d + 1) + 5 = k + 5 + d + 1 by omega, ih k (i + 1) _ (by omega) (by omega) (by simp; omega)]
    simp [be]
theorem rput_ok (k : Nat) (l : List Int) (n : Int) (z : Nat) (h1 : 1 ≤ z) (h4 : z ≤ 4) (h0 : 0 ≤ n) (hn : n < 256 ^ z) (hl : l.length < 140737488355000) :
    compositorref06_Put.f (k + 20) l n z = some (l ++ be n z, 0) := by
  have hp := pow_le h4
  unfold compositorref06_Put.f
  rw [if_neg (by omega), if_neg (by omega), if_neg (by omega), show k + 20 = (k + 15) + 5 from rfl, power_ok _ z h4]
  simp only [Option.bind_some]
  rw [decide_eq_false (by omega), show k + 15 + 5 = (k + 19) + 1 from rfl, compositorref06_Put.j0]
  rw [if_neg (by decide)]
  simp only [Option.bind_some, List.nil_append, List.length_nil]
  rw [if_pos (by omega), show k + 19 = (k + (13 - z)) + 5 + z + 1 by omega]
  exact rput_l0 n h0 (by omega) z h4 z _ 0 l (by omega) (by omega) (by omega)
theorem rput_no (k : Nat) (l : List Int) (n z : Int) (h : ¬ (1 ≤ z ∧ z ≤ 4) ∨ n < 0 ∨ ∃ q : Nat, z = q ∧ 256 ^ q ≤ n) :
    compositorref06_Put.f (k + 20) l n z = some ([], 60) := by
  have no : compositorref06_Put.j0 (k + 20) l n z true = some ([], 60) := by rw [compositorref06_Put.j0]; rfl
  unfold compositorref06_Put.f
  by_cases h1 : z < 1
  · rw [if_pos h1]; exact no
  · by_cases h4 : z > 4
    · rw [if_neg h1, if_pos h4]; exact no
    · by_cases hn : n < 0
      · rw [if_neg h1, if_neg h4, if_pos hn]; exact no
      · obtain ⟨q, rfl, hq⟩ : ∃ q : Nat, z = q ∧ 256 ^ q ≤ n := by
          rcases h with h | h | h
          · omega
          · exact absurd h hn
          · exact h
        rw [if_neg h1, if_neg h4, if_neg hn, show k + 20 = (k + 15) + 5 from rfl, power_ok _ q (by omega)]
        simp only [Option.bind_some]
        rw [decide_eq_true hq]
        exact no
theorem rputfix (k : Nat) (l : List Int) (n : Int) (hl : l.length < 140737488355000) :
    compositorref06_PutFix.f (k + 21) l n = if -2147483648 ≤ n ∧ n < 2147483648 then some (l ++ be (n % 4294967296) 4, 0) else some ([], 60) := by
  have no : compositorref06_PutFix.j0 (k + 21) l n true = some ([], 60) := by rw [compositorref06_PutFix.j0]; rfl
  unfold compositorref06_PutFix.f
  by_cases h1 : n < -2147483648
  · rw [if_pos h1, if_neg (by omega)]; exact no
  · rw [if_neg h1]
    by_cases h2 : n > 2147483647
    · rw [decide_eq_true h2, if_neg (by omega)]; exact no
    · rw [decide_eq_false h2, if_pos (by omega), compositorref06_PutFix.j0, if_neg (by decide)]
      by_cases h3 : n < 0
      · rw [if_pos h3, w64 (by omega) (by omega)]
        have := rput_ok k l (n + 4294967296) 4 (by omega) (by omega) (by omega) (by simp; omega) hl
        rw [show ((4 : Nat) : Int) = 4 from rfl] at this
        rw [this, show n % 4294967296 = n + 4294967296 by omega]
        rfl
      · rw [if_neg h3]
        have := rput_ok k l n 4 (by omega) (by omega) (by omega) (by simp; omega) hl
        rw [show ((4 : Nat) : Int) = 4 from rfl] at this
        rw [this, show n % 4294967296 = n by omega]
        rfl
theorem rtake_l0 (l : List Int) (hb : ∀ x ∈ l, 0 ≤ x ∧ x < 256) (z : Nat) (hz : z ≤ 4) (hzl : z ≤ l.length) (hl : l.length < 140737488355000) :
    ∀ (d : Nat) (k : Nat) (i : Nat), i + d = z →
    compositorref06_Take.l0 (k + d + 1) l z (val 0 (l.take i)) i = some (val 0 (l.take z), l.drop z, 0) := by
  intro d
  induction d with
  | zero =>
    intro k i hi
    rw [compositorref06_Take.l0]
    obtain rfl : i = z := by omega
    rw [if_neg (by omega)]
    simp only [Option.bind_some, Int.toNat_natCast, List.length_nil, List.nil_append]
    rw [if_pos (by omega), if_pos (by omega), if_pos (by simp; omega)]
  | succ d ih =>
    intro k i hi
    have hi' : i < l.length := by omega
    have c1 : (i : Int) < (z : Int) := by omega
    have c3 : (i : Int) < (l.length : Int) := by omega
    have ck : k + (d + 1) + 1 = (k + d + 1) + 1 := by omega
    have ck2 : (i + 1) + d = z := by omega
    have hx := hb l[i] (by simp)
    have hv := val_bound (l.take i) 0 (fun x hx => hb x (List.mem_of_mem_take hx)) (by omega)
    have hp : (0 + 1) * (256 : Int) ^ (l.take i).length ≤ 16777216 := by
      have hlen : (l.take i).length ≤ 3 := by simp; omega
      have h3 : (l.take i).length = 0 ∨ (l.take i).length = 1 ∨ (l.take i).length = 2 ∨ (l.take i).length = 3 := by omega
      rcases h3 with h3 | h3 | h3 | h3 <;> rw [h3] <;> decide
    have e1 : wrap64 (256 * val 0 (l.take i)) = 256 * val 0 (l.take i) := w64 (by omega) (by omega)
    have e2 : wrap64 (rd l (i : Int)) = l[i] := by rw [rd_getElem l i hi', w64 (by omega) (by omega)]
    have e3 : wrap64 (256 * val 0 (l.take i) + l[i]) = 256 * val 0 (l.take i) + l[i] := w64 (by omega) (by omega)
    have e4 : wrap64 ((i : Int) + 1) = ((i + 1 : Nat) : Int) := by rw [w64 (by omega) (by omega)]; omega
    rw [ck, compositorref06_Take.l0, if_pos c1, if_pos (Int.natCast_nonneg i), if_pos c3, e1, e2, e3, e4, ← val_snoc, ← List.take_succ_eq_append_getElem hi']
    exact ih k (i + 1) ck2
theorem rtake_ok (k : Nat) (l : List Int) (z : Nat) (h1 : 1 ≤ z) (h4 : z ≤ 4) (hzl : z ≤ l.length) (hb : ∀ x ∈ l, 0 ≤ x ∧ x < 256) (hl : l.length < 140737488355000) :
    compositorref06_Take.f (k + 10) l z = some (val 0 (l.take z), l.drop z, 0) := by
  unfold compositorref06_Take.f
  rw [if_neg (by omega), if_neg (by omega), decide_eq_false (by omega), show k + 10 = (k + 9) + 1 from rfl, compositorref06_Take.j0, if_neg (by decide), show k + 9 = (k + (8 - z)) + z + 1 by omega]
  exact rtake_l0 l hb z h4 hzl hl z _ 0 (by omega)
theorem rtake_no (k : Nat) (l : List Int) (z : Int) (h : ¬ (1 ≤ z ∧ z ≤ 4) ∨ (l.length : Int) < z) : compositorref06_Take.f (k + 10) l z = some (0, [], 60) := by
  have no : compositorref06_Take.j0 (k + 10) l z true = some (0, [], 60) := by rw [compositorref06_Take.j0]; rfl
  unfold compositorref06_Take.f
  by_cases h1 : z < 1
  · rw [if_pos h1]; exact no
  · by_cases h4 : z > 4
    · rw [if_neg h1, if_pos h4]; exact no
    · rw [if_neg h1, if_neg h4, decide_eq_true (by omega)]; exact no
theorem rtakefix_ok (k : Nat) (l : List Int) (hzl : 4 ≤ l.length) (hb : ∀ x ∈ l, 0 ≤ x ∧ x < 256) (hl : l.length < 140737488355000) :
    compositorref06_TakeFix.f (k + 10) l = some (sg (val 0 (l.take 4)), l.drop 4, 0) := by
  have hv := val4 (l.take 4) (fun x hx => hb x (List.mem_of_mem_take hx)) (by simp; omega)
  unfold compositorref06_TakeFix.f
  have := rtake_ok k l 4 (by omega) (by omega) hzl hb hl
  rw [show ((4 : Nat) : Int) = 4 from rfl] at this
  rw [this]
  simp only [Option.bind_some]
  unfold sg
  split
  · rw [w64 (by omega) (by omega)]
  · rfl
theorem rtakefix_no (k : Nat) (l : List Int) (h : l.length < 4) : compositorref06_TakeFix.f (k + 10) l = some (0, [], 60) := by
  unfold compositorref06_TakeFix.f
  rw [rtake_no k l 4 (Or.inr (by omega))]
  simp only [Option.bind_some]
  rw [if_neg (by omega)]
theorem wf_bytes {l : List Int} (h : ∀ x ∈ l, (Lit.int .u8 x).wf = true) : ∀ x ∈ l, 0 ≤ x ∧ x < 256 := fun x hx => by
  have := h x hx
  have h1 : IntKind.u8.min = 0 := by decide
  have h2 : IntKind.u8.max = 255 := by decide
  simp only [Lit.wf, Bool.and_eq_true, decide_eq_true_eq, h1, h2] at this
  omega
theorem put_cases (n z : Int) : (∃ q : Nat, z = q ∧ 1 ≤ q ∧ q ≤ 4 ∧ 0 ≤ n ∧ n < 256 ^ q) ∨ (¬ (1 ≤ z ∧ z ≤ 4) ∨ n < 0 ∨ ∃ q : Nat, z = q ∧ 256 ^ q ≤ n) := by
  by_cases h : 1 ≤ z ∧ z ≤ 4
  · obtain ⟨q, rfl⟩ := Int.eq_ofNat_of_zero_le (show 0 ≤ z by omega)
    by_cases h0 : n < 0
    · exact Or.inr (Or.inr (Or.inl h0))
    · by_cases h1 : n < 256 ^ q
      · exact Or.inl ⟨q, rfl, by omega, by omega, by omega, h1⟩
      · exact Or.inr (Or.inr (Or.inr ⟨q, rfl, by omega⟩))
  · exact Or.inr (Or.inl h)
end Go.Proofs.Ytihiiidbhhlfnaa.L
