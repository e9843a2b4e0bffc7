/- For every bytes and size: what pack.Take and pack.TakeFix take, and what is behind, is what the document says (at most a thousand bytes). -/
import Derived.Test.YtlkoaiogdkmglaaLRef
import Derived.Test.YtlkoaiogdkmglaaGx15
namespace Go.Proofs.Ytlkoaiogdkmglaa.Pure
open Go.RowKit Go.Proofs.Ytlkoaiogdkmglaa.G Go.Proofs.Ytlkoaiogdkmglaa.L Go.Proofs.YtlkoaiogdkmglaaW.PrintWords Go.Proofs.YtlkoaiogdkmglaaW.PrintLast
theorem PackTakes : compositorlaw06_PackTakes.Pure := by
  intro l z _ _ hb _
  replace hb := wf_bytes hb
  refine ⟨40, ?_⟩
  have ha : compositorlaw06_awake.f 40 = some true := by decide +kernel
  unfold compositorlaw06_PackTakes.f
  rw [ha]
  simp only [Option.bind_some]
  by_cases hl : (l.length : Int) > 1000
  · rw [if_pos hl]
  · rw [if_neg hl]
    have hf : pack_TakeFix.f 40 l = compositorref06_TakeFix.f 40 l ∧ ∃ r, compositorref06_TakeFix.f 40 l = some r := by
      by_cases h4 : 4 ≤ l.length
      · have e1 := takefix_ok 30 l h4 hb (by omega)
        have e2 := rtakefix_ok 30 l h4 hb (by omega)
        simp only [Nat.reduceAdd] at e1 e2
        rw [e1, e2]; exact ⟨rfl, _, rfl⟩
      · have e1 := takefix_no 30 l (by omega)
        have e2 := rtakefix_no 30 l (by omega)
        simp only [Nat.reduceAdd] at e1 e2
        rw [e1, e2]; exact ⟨rfl, _, rfl⟩
    obtain ⟨hf, r, hr⟩ := hf
    rw [hf, hr]
    by_cases h : 1 ≤ z ∧ z ≤ 4 ∧ z ≤ l.length
    · obtain ⟨q, rfl⟩ := Int.eq_ofNat_of_zero_le (show 0 ≤ z by omega)
      have e1 := take_ok 30 l q (by omega) (by omega) (by omega) hb (by omega)
      have e2 := rtake_ok 30 l q (by omega) (by omega) (by omega) hb (by omega)
      simp only [Nat.reduceAdd] at e1 e2
      rw [e1, e2]
      simp
    · have e1 := take_no 30 l z (by omega)
      have e2 := rtake_no 30 l z (by omega)
      simp only [Nat.reduceAdd] at e1 e2
      rw [e1, e2]
      simp
end Go.Proofs.Ytlkoaiogdkmglaa.Pure
