/- The demerits of any line, the side of any line behind any other one, and the demerits of any two, are what the document says (at most a hundred lines of a shape). -/
import Derived.Test.YtejpnfaaboicdaaLDem
import Derived.Test.YtejpnfaaboicdaaLAwake
import Derived.Test.YtejpnfaaboicdaaGStDemTells
namespace Go.Proofs.Ytejpnfaaboicdaa.Pure
open Go.RowKit Go.Proofs.Ytejpnfaaboicdaa.G Go.Proofs.Ytejpnfaaboicdaa.L Go.Proofs.YtejpnfaaboicdaaW.PrintWords Go.Proofs.YtejpnfaaboicdaaW.PrintLast Go.Proofs.YtejpnfaaboicdaaW.PrintMore
set_option linter.unusedVariables false
set_option linter.unusedSimpArgs false
theorem DemTells : compositorlaw21_DemTells.Pure := by
  intro a0 bad kind before now rivers _ _ _ hb hn _
  refine ⟨140 + a0.f4.length + 6, ?_⟩
  have ha : compositorlaw21_awake.f (140 + a0.f4.length + 6) = some true := awake_at _ (by omega)
  have own : ∃ v, dem_Own.f (140 + a0.f4.length + 6) a0.f0 a0.f1 a0.f2 a0.f3 a0.f4 a0.f5 a0.f6 a0.f7 a0.f8 a0.f9 a0.f10 a0.f11 a0.f12 a0.f13 a0.f14 a0.f15 a0.f16 a0.f17 a0.f18 a0.f19 a0.f20 bad kind = some v ∧ compositorref21_Own.f (140 + a0.f4.length + 6) a0.f0 a0.f1 a0.f2 a0.f3 a0.f4 a0.f5 a0.f6 a0.f7 a0.f8 a0.f9 a0.f10 a0.f11 a0.f12 a0.f13 a0.f14 a0.f15 a0.f16 a0.f17 a0.f18 a0.f19 a0.f20 bad kind = some v := by
    by_cases h : okLay a0.f0 a0.f1 a0.f2 a0.f3 a0.f4 a0.f5 a0.f6 a0.f7 a0.f8 a0.f9 a0.f10 a0.f11 a0.f12 a0.f13 a0.f14 a0.f15 a0.f16 a0.f17 a0.f18 a0.f19 a0.f20 = true ∧ 0 ≤ bad ∧ bad ≤ 10000
    · exact ⟨_, own_yes (140 + a0.f4.length + 4) _ _ _ _ _ _ _ _ _ _ _ _ _ _ _ _ _ _ _ _ _ bad kind h.1 h.2.1 h.2.2, rown_yes 140 _ _ _ _ _ _ _ _ _ _ _ _ _ _ _ _ _ _ _ _ _ bad kind h.1 h.2.1 h.2.2⟩
    · have h' : okLay a0.f0 a0.f1 a0.f2 a0.f3 a0.f4 a0.f5 a0.f6 a0.f7 a0.f8 a0.f9 a0.f10 a0.f11 a0.f12 a0.f13 a0.f14 a0.f15 a0.f16 a0.f17 a0.f18 a0.f19 a0.f20 = false ∨ bad < 0 ∨ 10000 < bad := by
        cases hk : okLay a0.f0 a0.f1 a0.f2 a0.f3 a0.f4 a0.f5 a0.f6 a0.f7 a0.f8 a0.f9 a0.f10 a0.f11 a0.f12 a0.f13 a0.f14 a0.f15 a0.f16 a0.f17 a0.f18 a0.f19 a0.f20
        · exact .inl rfl
        · by_cases z : bad < 0
          · exact .inr (.inl z)
          · by_cases y : 10000 < bad
            · exact .inr (.inr y)
            · exact absurd ⟨hk, by omega, by omega⟩ h
      exact ⟨_, own_no (140 + a0.f4.length + 5) _ _ _ _ _ _ _ _ _ _ _ _ _ _ _ _ _ _ _ _ _ bad kind h', rown_no 140 _ _ _ _ _ _ _ _ _ _ _ _ _ _ _ _ _ _ _ _ _ bad kind h'⟩
  have pair : ∃ v, dem_Pair.f (140 + a0.f4.length + 6) a0.f0 a0.f1 a0.f2 a0.f3 a0.f4 a0.f5 a0.f6 a0.f7 a0.f8 a0.f9 a0.f10 a0.f11 a0.f12 a0.f13 a0.f14 a0.f15 a0.f16 a0.f17 a0.f18 a0.f19 a0.f20 before.f0 before.f1 before.f2 now.f0 now.f1 now.f2 rivers = some v ∧ compositorref21_Pair.f (140 + a0.f4.length + 6) a0.f0 a0.f1 a0.f2 a0.f3 a0.f4 a0.f5 a0.f6 a0.f7 a0.f8 a0.f9 a0.f10 a0.f11 a0.f12 a0.f13 a0.f14 a0.f15 a0.f16 a0.f17 a0.f18 a0.f19 a0.f20 before.f0 before.f1 before.f2 now.f0 now.f1 now.f2 rivers = some v := by
    by_cases h : okLay a0.f0 a0.f1 a0.f2 a0.f3 a0.f4 a0.f5 a0.f6 a0.f7 a0.f8 a0.f9 a0.f10 a0.f11 a0.f12 a0.f13 a0.f14 a0.f15 a0.f16 a0.f17 a0.f18 a0.f19 a0.f20 = true ∧ 0 ≤ rivers ∧ rivers ≤ 1000000
    · exact ⟨_, pair_yes (140 + a0.f4.length + 3) _ _ _ _ _ _ _ _ _ _ _ _ _ _ _ _ _ _ _ _ _ _ _ _ _ _ _ _ h.1 h.2.1 h.2.2 hb.2.1 hn.2.1, rpair_yes 140 _ _ _ _ _ _ _ _ _ _ _ _ _ _ _ _ _ _ _ _ _ _ _ _ _ _ _ _ h.1 h.2.1 h.2.2 hb.2.1 hn.2.1⟩
    · have h' : okLay a0.f0 a0.f1 a0.f2 a0.f3 a0.f4 a0.f5 a0.f6 a0.f7 a0.f8 a0.f9 a0.f10 a0.f11 a0.f12 a0.f13 a0.f14 a0.f15 a0.f16 a0.f17 a0.f18 a0.f19 a0.f20 = false ∨ rivers < 0 ∨ 1000000 < rivers := by
        cases hk : okLay a0.f0 a0.f1 a0.f2 a0.f3 a0.f4 a0.f5 a0.f6 a0.f7 a0.f8 a0.f9 a0.f10 a0.f11 a0.f12 a0.f13 a0.f14 a0.f15 a0.f16 a0.f17 a0.f18 a0.f19 a0.f20
        · exact .inl rfl
        · by_cases z : rivers < 0
          · exact .inr (.inl z)
          · by_cases y : 1000000 < rivers
            · exact .inr (.inr y)
            · exact absurd ⟨hk, by omega, by omega⟩ h
      exact ⟨_, pair_no (140 + a0.f4.length + 5) _ _ _ _ _ _ _ _ _ _ _ _ _ _ _ _ _ _ _ _ _ _ _ _ _ _ _ _ h', rpair_no 140 _ _ _ _ _ _ _ _ _ _ _ _ _ _ _ _ _ _ _ _ _ _ _ _ _ _ _ _ h'⟩
  obtain ⟨v, o1, o2⟩ := own
  obtain ⟨u, p1, p2⟩ := pair
  unfold compositorlaw21_DemTells.f
  rw [ha]
  simp only [Option.bind_some]
  by_cases hl : (a0.f4.length : Int) > 100
  · rw [if_pos hl]
  · rw [if_neg hl, if_pos trivial, o1, o2]
    simp only [Option.bind_some]
    rw [if_pos trivial, next_f, rnext_f _ _ _ _ _ hb.2.2, p1, p2]
    simp
end Go.Proofs.Ytejpnfaaboicdaa.Pure
