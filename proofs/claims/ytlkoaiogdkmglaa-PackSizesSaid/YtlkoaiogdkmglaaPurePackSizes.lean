/- For every bytes, number and size: behind bytes a number takes as many bytes as it says, and these stay; a fix takes four (at most a thousand bytes). -/
import Derived.Test.YtlkoaiogdkmglaaLBack
import Derived.Test.YtlkoaiogdkmglaaGx18
namespace Go.Proofs.Ytlkoaiogdkmglaa.Pure
open Go.RowKit Go.Proofs.Ytlkoaiogdkmglaa.G Go.Proofs.Ytlkoaiogdkmglaa.L Go.Proofs.YtlkoaiogdkmglaaW.PrintWords Go.Proofs.YtlkoaiogdkmglaaW.PrintLast
set_option linter.unusedVariables false
set_option linter.unusedSimpArgs false
theorem PackSizes : compositorlaw06_PackSizes.Pure := by
  intro l n z _ _ _ wn wz
  have un := i64_of wn
  refine ⟨40, ?_⟩
  have ha : compositorlaw06_awake.f 40 = some true := by decide +kernel
  unfold compositorlaw06_PackSizes.f
  rw [ha]
  simp only [Option.bind_some]
  by_cases hl : (l.length : Int) > 1000
  · rw [if_pos hl]
  · rw [if_neg hl]
    have hp := putfix 30 l n (by omega)
    simp only [Nat.reduceAdd] at hp
    have w4 : wrap64 ((l.length : Int) + 4) = (l.length : Int) + 4 := w64 (by omega) (by omega)
    have c0 : (0 : Int) ≤ (l.length : Int) := Int.natCast_nonneg _
    have tk : ∀ x : List Int, (l ++ x).take l.length = l := fun x => List.take_left' rfl
    rcases put_cases n z with ⟨q, rfl, h1, h4, h0, hn⟩ | h
    · have e1 := put_ok 30 l n q h1 h4 h0 hn (by omega)
      have wq : wrap64 ((l.length : Int) + q) = (l.length : Int) + q := w64 (by omega) (by omega)
      simp only [Nat.reduceAdd] at e1
      have c1 : ((l ++ be n q).length : Int) = wrap64 ((l.length : Int) + (q : Int)) := by rw [wq, List.length_append, be_len]; omega
      have c2 : (l.length : Int) ≤ ((l ++ be n q).length : Int) := by rw [List.length_append]; omega
      by_cases hf : -2147483648 ≤ n ∧ n < 2147483648
      · rw [if_pos hf] at hp
        rw [e1, Option.bind_some, hp]
        have c3 : ((l ++ be (n % 4294967296) 4).length : Int) = wrap64 ((l.length : Int) + 4) := by rw [w4, List.length_append, be_len]; omega
        have c4 : (l.length : Int) ≤ ((l ++ be (n % 4294967296) 4).length : Int) := by rw [List.length_append]; omega
        rw [Option.bind_some]
        dsimp only
        rw [if_pos trivial, if_pos c1, if_pos c0, if_pos c2, if_pos trivial, if_pos c3, if_pos c4, if_pos trivial, Int.toNat_natCast, tk, if_pos trivial, tk, if_pos trivial]
        by_cases hq : q = 4
        · subst hq
          have e : n % 4294967296 = n := by omega
          rw [if_neg (show ¬ (((4 : Nat) : Int) < 4) by decide), e]
          simp
        · rw [if_pos (show (q : Int) < 4 by omega)]
          simp
      · rw [if_neg hf] at hp
        rw [e1, Option.bind_some, hp, Option.bind_some]
        dsimp only
        rw [if_pos c1, if_pos c0, if_pos c2]
        simp [tk]
    · have e1 := put_no 30 l n z h
      simp only [Nat.reduceAdd] at e1
      by_cases hf : -2147483648 ≤ n ∧ n < 2147483648
      · rw [if_pos hf] at hp
        rw [e1, Option.bind_some, hp]
        have c3 : ((l ++ be (n % 4294967296) 4).length : Int) = wrap64 ((l.length : Int) + 4) := by rw [w4, List.length_append, be_len]; omega
        have c4 : (l.length : Int) ≤ ((l ++ be (n % 4294967296) 4).length : Int) := by rw [List.length_append]; omega
        rw [Option.bind_some]
        dsimp only
        rw [if_pos c3, if_pos c4]
        simp [tk, be_len, w4]
        omega
      · rw [if_neg hf] at hp
        rw [e1, Option.bind_some, hp, Option.bind_some]
        dsimp only
        simp
end Go.Proofs.Ytlkoaiogdkmglaa.Pure
