/- Numbers and their bytes, there and back. -/
import Derived.Test.YtlkoaiogdkmglaaLRef
import Derived.Test.YtlkoaiogdkmglaaLStr
namespace Go.Proofs.Ytlkoaiogdkmglaa.L
open Go.RowKit Go.Proofs.Ytlkoaiogdkmglaa.G Go.Proofs.YtlkoaiogdkmglaaW.PrintWords Go.Proofs.YtlkoaiogdkmglaaW.PrintLast Go.Proofs.YtlkoaiogdkmglaaW.PrintMore
set_option linter.unusedVariables false
set_option linter.unusedSimpArgs false
theorem be_len (n : Int) (z : Nat) : (be n z).length = z := by
  induction z with
  | zero => rfl
  | succ z ih => simp [be, ih]
theorem be_bytes (n : Int) (z : Nat) : ∀ x ∈ be n z, 0 ≤ x ∧ x < 256 := by
  induction z with
  | zero => intro x hx; simp [be] at hx
  | succ z ih =>
    intro x hx
    simp only [be, List.mem_cons] at hx
    rcases hx with rfl | hx
    · omega
    · exact ih x hx
theorem four {z : Nat} (h1 : 1 ≤ z) (h4 : z ≤ 4) : z = 1 ∨ z = 2 ∨ z = 3 ∨ z = 4 := by omega
theorem val_be (n : Int) (z : Nat) (h1 : 1 ≤ z) (h4 : z ≤ 4) (h0 : 0 ≤ n) (hn : n < 256 ^ z) : val 0 (be n z) = n := by
  rcases four h1 h4 with rfl | rfl | rfl | rfl <;> simp [be, val] at hn ⊢ <;> omega
theorem be_val (l : List Int) (z : Nat) (hl : l.length = z) (h1 : 1 ≤ z) (h4 : z ≤ 4) (hb : ∀ x ∈ l, 0 ≤ x ∧ x < 256) : be (val 0 l) z = l := by
  rcases four h1 h4 with rfl | rfl | rfl | rfl
  · match l, hl with
    | [a], _ =>
      have ha := hb a (by simp)
      simp [be, val]; omega
  · match l, hl with
    | [a, b], _ =>
      have ha := hb a (by simp)
      have h2 := hb b (by simp)
      simp [be, val]; omega
  · match l, hl with
    | [a, b, c], _ =>
      have ha := hb a (by simp)
      have h2 := hb b (by simp)
      have h3 := hb c (by simp)
      simp [be, val]; omega
  · match l, hl with
    | [a, b, c, d], _ =>
      have ha := hb a (by simp)
      have h2 := hb b (by simp)
      have h3 := hb c (by simp)
      have h5 := hb d (by simp)
      simp [be, val]; omega
theorem be_inj {a b : Int} {z : Nat} (h1 : 1 ≤ z) (h4 : z ≤ 4) (ha : 0 ≤ a) (han : a < 256 ^ z) (hb : 0 ≤ b) (hbn : b < 256 ^ z) : be a z = be b z ↔ a = b :=
  ⟨fun h => by rw [← val_be a z h1 h4 ha han, ← val_be b z h1 h4 hb hbn, h], fun h => by rw [h]⟩
theorem emod_step (a p : Int) (hp : 0 < p) : a % (p * 256) = p * (a / p % 256) + a % p := by
  have h1 := Int.mul_ediv_add_emod a p
  have h2 := Int.mul_ediv_add_emod (a / p) 256
  have h3 := Int.mul_ediv_add_emod a (p * 256)
  have h4 : a / p / 256 = a / (p * 256) := by rw [Int.ediv_ediv, if_neg (fun h => by omega), Int.sub_zero]
  rw [h4] at h2
  have h5 : p * (a / p) = p * 256 * (a / (p * 256)) + p * (a / p % 256) := by rw [← h2, Int.mul_add, Int.mul_assoc, h2]
  omega
theorem be_less' (a b : Int) (z : Nat) : lexLess (be a z) (be b z) = decide (a % 256 ^ z < b % 256 ^ z) := by
  induction z with
  | zero => simp [be, lexLess]
  | succ z ih =>
    have hp : (0 : Int) < 256 ^ z := Int.pow_pos (by decide)
    have ha := emod_step a (256 ^ z) hp
    have hb := emod_step b (256 ^ z) hp
    rw [Int.pow_succ, ha, hb]
    simp only [be, lexLess, ih]
    have h1 := Int.emod_nonneg a (Int.ne_of_gt hp)
    have h2 := Int.emod_lt_of_pos a hp
    have h3 := Int.emod_nonneg b (Int.ne_of_gt hp)
    have h4 := Int.emod_lt_of_pos b hp
    generalize a / 256 ^ z % 256 = x
    generalize b / 256 ^ z % 256 = y
    generalize a % 256 ^ z = r at h1 h2 ⊢
    generalize b % 256 ^ z = s at h3 h4 ⊢
    generalize (256 : Int) ^ z = p at hp h2 h4 ⊢
    rcases Int.lt_trichotomy x y with h | h | h
    · have : p * (x + 1) ≤ p * y := Int.mul_le_mul_of_nonneg_left (by omega) (Int.le_of_lt hp)
      rw [Int.mul_add] at this
      simp [h]
      omega
    · subst h
      simp
    · have : p * (y + 1) ≤ p * x := Int.mul_le_mul_of_nonneg_left (by omega) (Int.le_of_lt hp)
      rw [Int.mul_add] at this
      rw [decide_eq_false (show ¬ x < y by omega), decide_eq_false (show ¬ x = y by omega), decide_eq_false (show ¬ (p * x + r < p * y + s) by omega)]
      rfl
theorem be_less {a b : Int} {z : Nat} (ha : 0 ≤ a) (han : a < 256 ^ z) (hb : 0 ≤ b) (hbn : b < 256 ^ z) : lexLess (be a z) (be b z) = decide (a < b) := by
  rw [be_less', Int.emod_eq_of_lt ha han, Int.emod_eq_of_lt hb hbn]
theorem u32_of {n : Int} (h : (Lit.int .u32 n).wf = true) : 0 ≤ n ∧ n < 4294967296 := by
  have h1 : IntKind.u32.min = 0 := by decide
  have h2 : IntKind.u32.max = 4294967295 := by decide
  simp only [Lit.wf, Bool.and_eq_true, decide_eq_true_eq, h1, h2] at h
  omega
theorem u8_of {n : Int} (h : (Lit.int .u8 n).wf = true) : 0 ≤ n ∧ n < 256 := by
  have h1 : IntKind.u8.min = 0 := by decide
  have h2 : IntKind.u8.max = 255 := by decide
  simp only [Lit.wf, Bool.and_eq_true, decide_eq_true_eq, h1, h2] at h
  omega
theorem i64_of {n : Int} (h : (Lit.int .i64 n).wf = true) : -9223372036854775808 ≤ n ∧ n ≤ 9223372036854775807 := by
  have h1 : IntKind.i64.min = -9223372036854775808 := by decide
  have h2 : IntKind.i64.max = 9223372036854775807 := by decide
  simp only [Lit.wf, Bool.and_eq_true, decide_eq_true_eq, h1, h2] at h
  omega
/-- The sizes that a law asks of: 1 to 4. -/
theorem sizes {s : Int} (h : 0 ≤ s ∧ s < 256) : ∃ z : Nat, wrap64 (1 + wrap64 (Int.tmod s 4)) = z ∧ 1 ≤ z ∧ z ≤ 4 := by
  have e : Int.tmod s 4 = s % 4 := Int.tmod_eq_emod_of_nonneg h.1
  obtain ⟨q, hq⟩ := Int.eq_ofNat_of_zero_le (show 0 ≤ s % 4 by omega)
  refine ⟨1 + q, ?_, by omega, by omega⟩
  rw [e, w64 (x := s % 4) (by omega) (by omega), hq, w64 (by omega) (by omega)]
  omega
theorem put_or (k : Nat) (l : List Int) (n : Int) (z : Nat) (h1 : 1 ≤ z) (h4 : z ≤ 4) (h0 : 0 ≤ n) (hl : l.length < 140737488355000) :
    pack_Put.f (k + 10) l n z = if n < 256 ^ z then some (l ++ be n z, 0) else some ([], 60) := by
  split
  · exact put_ok k l n z h1 h4 h0 ‹_› hl
  · exact put_no k l n z (Or.inr (Or.inr ⟨z, rfl, by omega⟩))
end Go.Proofs.Ytlkoaiogdkmglaa.L
