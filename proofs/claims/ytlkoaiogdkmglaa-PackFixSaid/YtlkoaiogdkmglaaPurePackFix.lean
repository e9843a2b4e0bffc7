/- For every bytes and number: a fix is taken as it was put, behind any bytes, and one is put just if it has 31 bits (at most a hundred bytes). -/
import Derived.Test.YtlkoaiogdkmglaaLBack
import Derived.Test.YtlkoaiogdkmglaaGx19
namespace Go.Proofs.Ytlkoaiogdkmglaa.Pure
open Go.RowKit Go.Proofs.Ytlkoaiogdkmglaa.G Go.Proofs.Ytlkoaiogdkmglaa.L Go.Proofs.YtlkoaiogdkmglaaW.PrintWords Go.Proofs.YtlkoaiogdkmglaaW.PrintLast
set_option linter.unusedVariables false
set_option linter.unusedSimpArgs false
theorem fix_l0 (l : List Int) (n : Int) (hn : -2147483648 ≤ n ∧ n < 2147483648) (hl : l.length ≤ 100) : ∀ (d k i : Nat), i + d = l.length →
    compositorlaw06_PackFix.l0 (k + d + 21) l n true (l ++ be (n % 4294967296) 4) true i = some true := by
  intro d
  induction d with
  | zero =>
    intro k i hi
    have l1 := be_len (n % 4294967296) 4
    have hb := be_bytes (n % 4294967296) 4
    have hv := val_be (n % 4294967296) 4 (by omega) (by omega) (by omega) (by simp; omega)
    have t1 := takefix_ok (k + 10) (be (n % 4294967296) 4) (by omega) hb (by omega)
    have t2 := take_ok (k + 10) (be (n % 4294967296) 4) 4 (by omega) (by omega) (by omega) hb (by omega)
    have c0 : (i : Int) = l.length := by omega
    rw [List.take_of_length_le (by omega), hv] at t1 t2
    simp only [Nat.add_assoc, Nat.reduceAdd] at t1 t2
    rw [show ((4 : Nat) : Int) = 4 from rfl] at t2
    have es : sg (n % 4294967296) = n := by unfold sg; split <;> omega
    rw [es] at t1
    rw [show k + 0 + 21 = (k + 20) + 1 from rfl, compositorlaw06_PackFix.l0, if_neg (by omega), if_pos (by omega), if_pos (by simp; omega), Int.toNat_natCast, List.drop_left]
    simp only [Option.bind_some]
    rw [t1, t2]
    simp only [Option.bind_some, if_true, List.drop_of_length_le (show (be (n % 4294967296) 4).length ≤ 4 by omega), List.length_nil]
    by_cases h : n % 4294967296 = n
    · simp [h]
    · have e : wrap64 (n + 4294967296) = n % 4294967296 := by rw [w64 (by omega) (by omega)]; omega
      rw [e]
      simp
  | succ d ih =>
    intro k i hi
    have l1 := be_len (n % 4294967296) 4
    have c1 : (i : Int) < (l.length : Int) := by omega
    have c2 : (i : Int) < ((l ++ be (n % 4294967296) 4).length : Int) := by simp; omega
    have c3 : rd (l ++ be (n % 4294967296) 4) (i : Int) = rd l (i : Int) := by
      rw [rd_getElem _ i (by simp; omega), rd_getElem l i (by omega), List.getElem_append_left]
    have e4 : wrap64 ((i : Int) + 1) = ((i + 1 : Nat) : Int) := by rw [w64 (by omega) (by omega)]; omega
    rw [show k + (d + 1) + 21 = (k + d + 21) + 1 from rfl, compositorlaw06_PackFix.l0, if_pos c1, if_pos (Int.natCast_nonneg i), if_pos c2, if_pos c3, e4]
    exact ih k (i + 1) (by omega)
theorem PackFix : compositorlaw06_PackFix.Pure := by
  intro l n _ _ _ wn
  refine ⟨200, ?_⟩
  have ha : compositorlaw06_awake.f 200 = some true := by decide +kernel
  unfold compositorlaw06_PackFix.f
  rw [ha]
  simp only [Option.bind_some]
  by_cases hl : (l.length : Int) > 100
  · rw [if_pos hl]
  · rw [if_neg hl]
    have hp := putfix 190 l n (by omega)
    simp only [Nat.reduceAdd] at hp
    have w4 : wrap64 ((l.length : Int) + 4) = (l.length : Int) + 4 := w64 (by omega) (by omega)
    rw [hp]
    by_cases hn : -2147483648 ≤ n ∧ n < 2147483648
    · rw [if_pos hn]
      simp only [Option.bind_some]
      rw [if_pos (show n ≥ -2147483648 from hn.1), decide_eq_true hn.2, compositorlaw06_PackFix.j0, if_pos rfl, if_pos (by simp [be_len, w4])]
      have := fix_l0 l n hn (by omega) l.length (178 - l.length) 0 (by omega)
      rw [show 178 - l.length + l.length + 21 = 199 by omega] at this
      exact this
    · rw [if_neg hn]
      simp only [Option.bind_some]
      split
      · rw [decide_eq_false (by omega), compositorlaw06_PackFix.j0, if_neg (by decide), if_pos rfl]
        simp
      · rw [compositorlaw06_PackFix.j0, if_neg (by decide), if_pos rfl]
        simp
end Go.Proofs.Ytlkoaiogdkmglaa.Pure
