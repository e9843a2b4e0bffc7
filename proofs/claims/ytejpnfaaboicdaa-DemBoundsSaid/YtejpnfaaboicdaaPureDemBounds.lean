/- What lines cost by themselves, and two, is bounded (at most a hundred lines of a shape). -/
import Derived.Test.YtejpnfaaboicdaaLDem
import Derived.Test.YtejpnfaaboicdaaLAwake
import Derived.Test.YtejpnfaaboicdaaGStDemBounds
namespace Go.Proofs.Ytejpnfaaboicdaa.Pure
open Go.RowKit Go.Proofs.Ytejpnfaaboicdaa.G Go.Proofs.Ytejpnfaaboicdaa.L Go.Proofs.YtejpnfaaboicdaaW.PrintWords Go.Proofs.YtejpnfaaboicdaaW.PrintLast Go.Proofs.YtejpnfaaboicdaaW.PrintMore
set_option linter.unusedVariables false
set_option linter.unusedSimpArgs false
theorem DemBounds : compositorlaw21_DemBounds.Pure := by
  intro a0 bad kind before now rivers _ _ _ hb hn _
  refine ⟨140 + a0.f4.length + 6, ?_⟩
  have ha : compositorlaw21_awake.f (140 + a0.f4.length + 6) = some true := awake_at _ (by omega)
  have own : ∃ v, dem_Own.f (140 + a0.f4.length + 6) a0.f0 a0.f1 a0.f2 a0.f3 a0.f4 a0.f5 a0.f6 a0.f7 a0.f8 a0.f9 a0.f10 a0.f11 a0.f12 a0.f13 a0.f14 a0.f15 a0.f16 a0.f17 a0.f18 a0.f19 a0.f20 bad kind = some v ∧ v ≥ -1000000 ∧ v ≤ 122000000 := by
    by_cases h : okLay a0.f0 a0.f1 a0.f2 a0.f3 a0.f4 a0.f5 a0.f6 a0.f7 a0.f8 a0.f9 a0.f10 a0.f11 a0.f12 a0.f13 a0.f14 a0.f15 a0.f16 a0.f17 a0.f18 a0.f19 a0.f20 = true ∧ 0 ≤ bad ∧ bad ≤ 10000
    · refine ⟨_, own_yes (140 + a0.f4.length + 4) _ _ _ _ _ _ _ _ _ _ _ _ _ _ _ _ _ _ _ _ _ bad kind h.1 h.2.1 h.2.2, ?_⟩
      have hk := okLay_iff _ _ _ _ _ _ _ _ _ _ _ _ _ _ _ _ _ _ _ _ _ h.1
      have h12 := hk.b12
      have hp := pen_b (kind := kind) hk.b13 hk.b14
      have e1 := sq_b (n := a0.f12 + bad) (m := 11000) (by omega) (by omega)
      have e2 := sq_b (n := pen a0.f13 a0.f14 kind) (m := 1000) (by omega) (by omega)
      have e3 : 0 ≤ sq (a0.f12 + bad) := by rw [← sq_mul _ (by omega)]; exact Int.mul_nonneg (by omega) (by omega)
      unfold ownV
      omega
    · have h' : okLay a0.f0 a0.f1 a0.f2 a0.f3 a0.f4 a0.f5 a0.f6 a0.f7 a0.f8 a0.f9 a0.f10 a0.f11 a0.f12 a0.f13 a0.f14 a0.f15 a0.f16 a0.f17 a0.f18 a0.f19 a0.f20 = false ∨ bad < 0 ∨ 10000 < bad := by
        cases hk : okLay a0.f0 a0.f1 a0.f2 a0.f3 a0.f4 a0.f5 a0.f6 a0.f7 a0.f8 a0.f9 a0.f10 a0.f11 a0.f12 a0.f13 a0.f14 a0.f15 a0.f16 a0.f17 a0.f18 a0.f19 a0.f20
        · exact .inl rfl
        · by_cases z : bad < 0
          · exact .inr (.inl z)
          · by_cases y : 10000 < bad
            · exact .inr (.inr y)
            · exact absurd ⟨hk, by omega, by omega⟩ h
      exact ⟨_, own_no (140 + a0.f4.length + 5) _ _ _ _ _ _ _ _ _ _ _ _ _ _ _ _ _ _ _ _ _ bad kind h', by omega, by omega⟩
  have pair : ∃ v, dem_Pair.f (140 + a0.f4.length + 6) a0.f0 a0.f1 a0.f2 a0.f3 a0.f4 a0.f5 a0.f6 a0.f7 a0.f8 a0.f9 a0.f10 a0.f11 a0.f12 a0.f13 a0.f14 a0.f15 a0.f16 a0.f17 a0.f18 a0.f19 a0.f20 before.f0 before.f1 before.f2 now.f0 now.f1 now.f2 rivers = some v ∧ v ≥ 0 ∧ v ≤ 10000050000 := by
    by_cases h : okLay a0.f0 a0.f1 a0.f2 a0.f3 a0.f4 a0.f5 a0.f6 a0.f7 a0.f8 a0.f9 a0.f10 a0.f11 a0.f12 a0.f13 a0.f14 a0.f15 a0.f16 a0.f17 a0.f18 a0.f19 a0.f20 = true ∧ 0 ≤ rivers ∧ rivers ≤ 1000000
    · refine ⟨_, pair_yes (140 + a0.f4.length + 3) _ _ _ _ _ _ _ _ _ _ _ _ _ _ _ _ _ _ _ _ _ _ _ _ _ _ _ _ h.1 h.2.1 h.2.2 hb.2.1 hn.2.1, ?_⟩
      have hk := okLay_iff _ _ _ _ _ _ _ _ _ _ _ _ _ _ _ _ _ _ _ _ _ h.1
      have e1 := mul_b hk.b18 ⟨h.2.1, h.2.2⟩
      have e2 := mul_b hk.b19 (ladV_b now.f2)
      have h15 := hk.b15
      have h16 := hk.b16
      have h17 := hk.b17
      unfold pairV
      repeat' split
      all_goals omega
    · have h' : okLay a0.f0 a0.f1 a0.f2 a0.f3 a0.f4 a0.f5 a0.f6 a0.f7 a0.f8 a0.f9 a0.f10 a0.f11 a0.f12 a0.f13 a0.f14 a0.f15 a0.f16 a0.f17 a0.f18 a0.f19 a0.f20 = false ∨ rivers < 0 ∨ 1000000 < rivers := by
        cases hk : okLay a0.f0 a0.f1 a0.f2 a0.f3 a0.f4 a0.f5 a0.f6 a0.f7 a0.f8 a0.f9 a0.f10 a0.f11 a0.f12 a0.f13 a0.f14 a0.f15 a0.f16 a0.f17 a0.f18 a0.f19 a0.f20
        · exact .inl rfl
        · by_cases z : rivers < 0
          · exact .inr (.inl z)
          · by_cases y : 1000000 < rivers
            · exact .inr (.inr y)
            · exact absurd ⟨hk, by omega, by omega⟩ h
      exact ⟨_, pair_no (140 + a0.f4.length + 5) _ _ _ _ _ _ _ _ _ _ _ _ _ _ _ _ _ _ _ _ _ _ _ _ _ _ _ _ h', by omega, by omega⟩
  obtain ⟨v, o1, v0, v1⟩ := own
  obtain ⟨u, p1, u0, u1⟩ := pair
  unfold compositorlaw21_DemBounds.f
  rw [ha]
  simp only [Option.bind_some]
  by_cases hl : (a0.f4.length : Int) > 100
  · rw [if_pos hl]
  · rw [if_neg hl, o1]
    simp only [Option.bind_some]
    rw [p1]
    simp only [Option.bind_some]
    rw [if_pos trivial, if_pos v0, if_pos v1, if_pos u0]
    simp [u1]
end Go.Proofs.Ytejpnfaaboicdaa.Pure
