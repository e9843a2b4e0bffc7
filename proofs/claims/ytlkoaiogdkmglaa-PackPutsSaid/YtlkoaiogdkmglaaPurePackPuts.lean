/- For every bytes, number and size: what pack.Put and pack.PutFix make is what the document says (at most a thousand bytes). -/
import Derived.Test.YtlkoaiogdkmglaaLRef
import Derived.Test.YtlkoaiogdkmglaaGx12
namespace Go.Proofs.Ytlkoaiogdkmglaa.Pure
open Go.RowKit Go.Proofs.Ytlkoaiogdkmglaa.G Go.Proofs.Ytlkoaiogdkmglaa.L Go.Proofs.YtlkoaiogdkmglaaW.PrintWords Go.Proofs.YtlkoaiogdkmglaaW.PrintLast
theorem PackPuts : compositorlaw06_PackPuts.Pure := by
  intro l n z _ _ _ _ _
  refine ⟨40, ?_⟩
  have ha : compositorlaw06_awake.f 40 = some true := by decide +kernel
  unfold compositorlaw06_PackPuts.f
  rw [ha]
  simp only [Option.bind_some]
  by_cases hl : (l.length : Int) > 1000
  · rw [if_pos hl]
  · rw [if_neg hl]
    have hp := putfix 30 l n (by omega)
    have hr := rputfix 19 l n (by omega)
    simp only [Nat.reduceAdd] at hp hr
    rcases put_cases n z with ⟨q, rfl, h1, h4, h0, hn⟩ | h
    · have e1 := put_ok 30 l n q h1 h4 h0 hn (by omega)
      have e2 := rput_ok 20 l n q h1 h4 h0 hn (by omega)
      simp only [Nat.reduceAdd] at e1 e2
      rw [e1, e2, hp, hr]
      split <;> simp
    · have e1 := put_no 30 l n z h
      have e2 := rput_no 20 l n z h
      simp only [Nat.reduceAdd] at e1 e2
      rw [e1, e2, hp, hr]
      split <;> simp
end Go.Proofs.Ytlkoaiogdkmglaa.Pure
