/- For every two numbers and size: bytes of one size that pack.Put makes are ordered as the numbers are. -/
import Derived.Test.YtlkoaiogdkmglaaLBack
import Derived.Test.YtlkoaiogdkmglaaGx17
namespace Go.Proofs.Ytlkoaiogdkmglaa.Pure
open Go.RowKit Go.Proofs.Ytlkoaiogdkmglaa.G Go.Proofs.Ytlkoaiogdkmglaa.L Go.Proofs.YtlkoaiogdkmglaaW.PrintWords Go.Proofs.YtlkoaiogdkmglaaW.PrintLast
theorem PackOrder : compositorlaw06_PackOrder.Pure := by
  intro a b s wa wb ws
  have ua := u32_of wa
  have ub := u32_of wb
  obtain ⟨z, hz, h1, h4⟩ := sizes (u8_of ws)
  refine ⟨40, ?_⟩
  have ha : compositorlaw06_awake.f 40 = some true := by decide +kernel
  have ea : wrap64 a = a := w64 (by omega) (by omega)
  have eb : wrap64 b = b := w64 (by omega) (by omega)
  have pa := put_or 30 [] a z h1 h4 ua.1 (by simp)
  have pb := put_or 30 [] b z h1 h4 ub.1 (by simp)
  simp only [Nat.reduceAdd, List.nil_append] at pa pb
  unfold compositorlaw06_PackOrder.f
  rw [ha, hz, ea, eb, pa, pb]
  simp only [Option.bind_some]
  by_cases han : a < 256 ^ z
  · by_cases hbn : b < 256 ^ z
    · rw [if_pos han, if_pos hbn]
      simp only [Option.bind_some, if_true]
      have e1 := be_less ua.1 han ub.1 hbn
      have e2 := be_inj h1 h4 ua.1 han ub.1 hbn
      have e3 := str_inj (be_bytes a z) (be_bytes b z)
      have e4 : ((strOfNums (be a z)).toList == (strOfNums (be b z)).toList) = (a == b) := by rw [Bool.eq_iff_iff, beq_iff_eq, beq_iff_eq, e3, e2]
      rw [str_less (be_bytes a z) (be_bytes b z), e1, e4]
      simp
    · rw [if_pos han, if_neg hbn]
      simp
  · rw [if_neg han]
    split <;> simp
end Go.Proofs.Ytlkoaiogdkmglaa.Pure
