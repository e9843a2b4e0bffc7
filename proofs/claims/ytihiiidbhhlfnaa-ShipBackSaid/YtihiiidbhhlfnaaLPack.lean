/- What package pack's functions answer, as plain lists of numbers. -/
import Derived.Test.YtihiiidbhhlfnaaGx4
import Derived.Test.YtihiiidbhhlfnaaGx7
namespace Go.Proofs.Ytihiiidbhhlfnaa.L
open Go.RowKit Go.Proofs.Ytihiiidbhhlfnaa.G Go.Proofs.YtihiiidbhhlfnaaW.PrintWords Go.Proofs.YtihiiidbhhlfnaaW.PrintLast Go.Proofs.YtihiiidbhhlfnaaW.PrintMore
set_option linter.unusedVariables false
set_option linter.unusedSimpArgs false

theorem w64 {x : Int} (h : -9223372036854775808 ≤ x) (h' : x ≤ 9223372036854775807) : wrap64 x = x := by unfold wrap64; omega
theorem some_getD {α : Type} {o : Option α} {x : α} (h : o = some x) : o.isSome = true := by rw [h]; rfl
/-- The bytes of a number, the highest first. -/
def be (n : Int) : Nat → List Int
  | 0 => []
  | z + 1 => (n / 256 ^ z % 256) :: be n z
/-- The number that bytes are, behind a number. -/
def val (a : Int) (l : List Int) : Int := l.foldl (fun a b => 256 * a + b) a

theorem shr8 (n : Int) (d : Nat) (hd : d ≤ 4) : shr .i64 n (8 * (d : Int)) = n / 256 ^ d := by
  have h : d = 0 ∨ d = 1 ∨ d = 2 ∨ d = 3 ∨ d = 4 := by omega
  rcases h with rfl | rfl | rfl | rfl | rfl <;> simp [shr, IntKind.bits]

theorem put_l0 (n : Int) (z : Nat) (hz : z ≤ 4) : ∀ (d : Nat) (k : Nat) (i : Int) (l : List Int), 0 ≤ i → i + d = z → l.length + d < 140737488355328 →
    pack_Put.l0 (k + d + 1) n z l z i = some (l ++ be n d, 0) := by
  intro d
  induction d with
  | zero =>
    intro k i l h0 hi hl
    simp only [pack_Put.l0]
    rw [if_neg (by omega)]
    simp [be]
  | succ d ih =>
    intro k i l h0 hi hl
    rw [show k + (d + 1) + 1 = (k + d + 1) + 1 by omega]
    rw [pack_Put.l0]
    have e1 : wrap64 ((z : Int) - 1) = (z : Int) - 1 := w64 (by omega) (by omega)
    have e2 : wrap64 ((z : Int) - 1 - i) = (d : Int) := by rw [w64 (by omega) (by omega)]; omega
    have e3 : wrap64 (8 * (d : Int)) = 8 * (d : Int) := w64 (by omega) (by omega)
    have e4 : wrap64 (i + 1) = i + 1 := w64 (by omega) (by omega)
    rw [if_pos (by omega), e1, e2, e3, if_pos (by omega), if_pos (by omega), e4, shr8 n d (by omega), ih k (i + 1) _ (by omega) (by omega) (by simp; omega)]
    simp [be]

theorem put_ok (k : Nat) (l : List Int) (n : Int) (z : Nat) (h1 : 1 ≤ z) (h4 : z ≤ 4) (h0 : 0 ≤ n) (hn : n < 256 ^ z) (hl : l.length < 140737488355000) :
    pack_Put.f (k + 10) l n z = some (l ++ be n z, 0) := by
  have e3 : wrap64 (8 * (z : Int)) = 8 * (z : Int) := w64 (by omega) (by omega)
  have e5 : n / 256 ^ z = 0 := Int.ediv_eq_zero_of_lt h0 hn
  unfold pack_Put.f pack_sized.f
  rw [if_pos (by omega), decide_eq_true (show (z : Int) ≤ 4 by omega)]
  simp only [Option.bind_some, if_true]
  rw [if_neg (by omega), e3, if_pos (by omega), shr8 n z h4, e5, show k + 10 = (k + 9) + 1 from rfl]
  simp only [pack_Put.j0, bytes_Clone.f]
  rw [if_neg (by decide), if_pos (by omega)]
  simp only [Option.bind_some]
  rw [show k + 9 = (k + (8 - z)) + z + 1 by omega]
  exact put_l0 n z h4 z _ 0 l (by omega) (by omega) (by omega)

theorem put_no (k : Nat) (l : List Int) (n z : Int) (h : ¬ (1 ≤ z ∧ z ≤ 4) ∨ n < 0 ∨ ∃ q : Nat, z = q ∧ 256 ^ q ≤ n) :
    pack_Put.f (k + 10) l n z = some ([], 60) := by
  have no : pack_Put.j0 (k + 10) l n z true = some ([], 60) := by simp only [pack_Put.j0]; rfl
  unfold pack_Put.f pack_sized.f
  by_cases h1 : z ≥ 1
  · rw [if_pos h1]
    by_cases h4 : z ≤ 4
    · rw [decide_eq_true h4]
      simp only [Option.bind_some, if_true]
      by_cases hn : n < 0
      · rw [if_pos hn]; exact no
      · obtain ⟨q, rfl, hq⟩ : ∃ q : Nat, z = q ∧ 256 ^ q ≤ n := by
          rcases h with h | h | h
          · omega
          · exact absurd h hn
          · exact h
        have e3 : wrap64 (8 * (q : Int)) = 8 * (q : Int) := w64 (by omega) (by omega)
        have e5 : n / 256 ^ q > 0 := by
          have hp : (0 : Int) < 256 ^ q := Int.pow_pos (by decide)
          have := (Int.le_ediv_iff_mul_le hp).2 (show (1 : Int) * 256 ^ q ≤ n by simpa using hq)
          omega
        rw [if_neg hn, e3, if_pos (by omega), shr8 n q (by omega), decide_eq_true e5]
        exact no
    · rw [decide_eq_false h4]
      simp only [Option.bind_some]
      exact no
  · rw [if_neg h1]
    simp only [Option.bind_some]
    exact no

theorem putfix (k : Nat) (l : List Int) (n : Int) (hl : l.length < 140737488355000) :
    pack_PutFix.f (k + 10) l n = if -2147483648 ≤ n ∧ n < 2147483648 then some (l ++ be (n % 4294967296) 4, 0) else some ([], 60) := by
  unfold pack_PutFix.f
  by_cases h1 : n < -2147483648
  · rw [if_pos h1, if_neg (by omega)]
  · by_cases h2 : n ≥ 2147483648
    · rw [if_neg h1, if_pos h2, if_neg (by omega)]
    · rw [if_neg h1, if_neg h2, if_pos (by omega)]
      have e : wrap32 n = n := by unfold wrap32; omega
      rw [e]
      exact put_ok k l (n % 4294967296) 4 (by omega) (by omega) (by omega) (by simp; omega) hl
theorem or8 {a b : Int} (ha : 0 ≤ a) (ha1 : a < 36028797018963968) (hb : 0 ≤ b) (hb1 : b < 256) : Go.bits .or .i64 (a * 256) b = 256 * a + b := by
  obtain ⟨m, rfl⟩ := Int.eq_ofNat_of_zero_le ha
  obtain ⟨n, rfl⟩ := Int.eq_ofNat_of_zero_le hb
  have h1 : (BitVec.ofInt 64 ((m : Int) * 256)).toNat = m * 256 := by
    rw [BitVec.toNat_ofInt]
    omega
  have h2 : (BitVec.ofInt 64 (n : Int)).toNat = n := by
    rw [BitVec.toNat_ofInt]
    omega
  have h3 : m * 256 ||| n = m * 256 + n := by
    have := Nat.shiftLeft_add_eq_or_of_lt (i := 8) (b := n) (by omega) m
    rw [Nat.shiftLeft_eq] at this
    exact this.symm
  have h4 : (BitVec.ofInt 64 ((m : Int) * 256) ||| BitVec.ofInt 64 (n : Int)).toNat = m * 256 + n := by
    rw [BitVec.toNat_or, h1, h2, h3]
  show IntKind.i64.wrap ((BitVec.ofInt 64 ((m : Int) * 256) ||| BitVec.ofInt 64 (n : Int)).toNat : Int) = _
  rw [h4, i64_w, w64 (by omega) (by omega)]
  omega

theorem val_snoc (a : Int) (l : List Int) (b : Int) : val a (l ++ [b]) = 256 * val a l + b := by simp [val]
theorem val_bound : ∀ (l : List Int) (a : Int) , (∀ x ∈ l, 0 ≤ x ∧ x < 256) → 0 ≤ a → 0 ≤ val a l ∧ val a l < (a + 1) * 256 ^ l.length := by
  intro l
  induction l with
  | nil => intro a _ ha; simp [val]; omega
  | cons x l ih =>
    intro a h ha
    have hx := h x (by simp)
    have := ih (256 * a + x) (fun y hy => h y (by simp [hy])) (by omega)
    refine ⟨this.1, Int.lt_of_lt_of_le this.2 ?_⟩
    rw [List.length_cons, Int.pow_succ, ← Int.mul_assoc, Int.mul_comm _ 256, ← Int.mul_assoc]
    exact Int.mul_le_mul_of_nonneg_right (by omega) (Int.le_of_lt (Int.pow_pos (by decide)))
theorem rd_getElem (l : List Int) (i : Nat) (h : i < l.length) : rd l (i : Int) = l[i] := by simp [rd, h]

theorem take_l0 (l : List Int) (hb : ∀ x ∈ l, 0 ≤ x ∧ x < 256) (z : Nat) (hz : z ≤ 4) (hzl : z ≤ l.length) (hl : l.length < 140737488355000) :
    ∀ (d : Nat) (k : Nat) (i : Nat), i + d = z →
    pack_Take.l0 (k + d + 1) l z (val 0 (l.take i)) z i = some (val 0 (l.take z), l.drop z, 0) := by
  intro d
  induction d with
  | zero =>
    intro k i hi
    rw [pack_Take.l0]
    obtain rfl : i = z := by omega
    rw [if_neg (by omega), if_pos (by omega), if_pos (by omega)]
    simp only [bytes_Clone.f, Int.toNat_natCast]
    rw [if_pos (by simp; omega)]
    rfl
  | succ d ih =>
    intro k i hi
    rw [show k + (d + 1) + 1 = (k + d + 1) + 1 by omega, pack_Take.l0]
    have hi' : i < l.length := by omega
    have hx := hb l[i] (by simp)
    have hv := val_bound (l.take i) 0 (fun x hx => hb x (List.mem_of_mem_take hx)) (by omega)
    have hp : (0 + 1) * (256 : Int) ^ (l.take i).length ≤ 16777216 := by
      have hlen : (l.take i).length ≤ 3 := by simp; omega
      have h3 : (l.take i).length = 0 ∨ (l.take i).length = 1 ∨ (l.take i).length = 2 ∨ (l.take i).length = 3 := by omega
      rcases h3 with h3 | h3 | h3 | h3 <;> rw [h3] <;> decide
    have e1 : wrap64 (val 0 (l.take i) * 256) = val 0 (l.take i) * 256 := w64 (by omega) (by omega)
    have e2 : wrap64 (rd l (i : Int)) = l[i] := by rw [rd_getElem l i hi', w64 (by omega) (by omega)]
    have e4 : wrap64 ((i : Int) + 1) = ((i + 1 : Nat) : Int) := by rw [w64 (by omega) (by omega)]; omega
    rw [if_pos (by omega), if_pos (by omega), if_pos (by omega), e1, e2, e4, or8 hv.1 (by omega) hx.1 hx.2, ← val_snoc, ← List.take_succ_eq_append_getElem hi']
    exact ih k (i + 1) (by omega)

theorem take_ok (k : Nat) (l : List Int) (z : Nat) (h1 : 1 ≤ z) (h4 : z ≤ 4) (hzl : z ≤ l.length) (hb : ∀ x ∈ l, 0 ≤ x ∧ x < 256) (hl : l.length < 140737488355000) :
    pack_Take.f (k + 10) l z = some (val 0 (l.take z), l.drop z, 0) := by
  unfold pack_Take.f pack_sized.f
  rw [if_pos (by omega), decide_eq_true (show (z : Int) ≤ 4 by omega)]
  simp only [Option.bind_some, if_true]
  rw [decide_eq_false (by omega), show k + 10 = (k + 9) + 1 from rfl]
  simp only [pack_Take.j0]
  rw [if_neg (by decide), show k + 9 = (k + (8 - z)) + z + 1 by omega]
  exact take_l0 l hb z h4 hzl hl z _ 0 (by omega)
theorem take_no (k : Nat) (l : List Int) (z : Int) (h : ¬ (1 ≤ z ∧ z ≤ 4) ∨ (l.length : Int) < z) : pack_Take.f (k + 10) l z = some (0, [], 60) := by
  have no : pack_Take.j0 (k + 10) l z true = some (0, [], 60) := by simp only [pack_Take.j0]; rfl
  unfold pack_Take.f pack_sized.f
  by_cases h1 : z ≥ 1
  · rw [if_pos h1]
    by_cases h4 : z ≤ 4
    · rw [decide_eq_true h4]
      simp only [Option.bind_some, if_true]
      rw [decide_eq_true (by omega)]
      exact no
    · rw [decide_eq_false h4]
      simp only [Option.bind_some]
      exact no
  · rw [if_neg h1]
    simp only [Option.bind_some]
    exact no
/-- A number of four bytes with its sign. -/
def sg (n : Int) : Int := if n ≥ 2147483648 then n - 4294967296 else n
theorem wrap_sg {n : Int} (h0 : 0 ≤ n) (h1 : n < 4294967296) : wrap64 (wrap32 (n % 4294967296)) = sg n := by
  unfold sg wrap64 wrap32
  split <;> omega
theorem val4 (l : List Int) (hb : ∀ x ∈ l, 0 ≤ x ∧ x < 256) (h : l.length = 4) : 0 ≤ val 0 l ∧ val 0 l < 4294967296 := by
  have := val_bound l 0 hb (by omega)
  rw [h] at this
  exact ⟨this.1, by have := this.2; omega⟩
theorem takefix_ok (k : Nat) (l : List Int) (hzl : 4 ≤ l.length) (hb : ∀ x ∈ l, 0 ≤ x ∧ x < 256) (hl : l.length < 140737488355000) :
    pack_TakeFix.f (k + 10) l = some (sg (val 0 (l.take 4)), l.drop 4, 0) := by
  have hv := val4 (l.take 4) (fun x hx => hb x (List.mem_of_mem_take hx)) (by simp; omega)
  unfold pack_TakeFix.f
  rw [show (4 : Int) = ((4 : Nat) : Int) from rfl, take_ok k l 4 (by omega) (by omega) hzl hb hl]
  simp only [Option.bind_some]
  rw [wrap_sg hv.1 hv.2]
theorem takefix_no (k : Nat) (l : List Int) (h : l.length < 4) : pack_TakeFix.f (k + 10) l = some (0, [], 60) := by
  unfold pack_TakeFix.f
  rw [take_no k l 4 (Or.inr (by omega))]
  simp only [Option.bind_some]
  rw [wrap_sg (by omega) (by omega)]
  rfl
end Go.Proofs.Ytihiiidbhhlfnaa.L
