/- What a line costs by itself hangs on its badness, its penalty, and nothing else of its kind, and a worse line costs more (at most a hundred lines of a shape). -/
import Derived.Test.YtejpnfaaboicdaaLDem
import Derived.Test.YtejpnfaaboicdaaLAwake
import Derived.Test.YtejpnfaaboicdaaGStDemApart
namespace Go.Proofs.Ytejpnfaaboicdaa.Pure
open Go.RowKit Go.Proofs.Ytejpnfaaboicdaa.G Go.Proofs.Ytejpnfaaboicdaa.L Go.Proofs.YtejpnfaaboicdaaW.PrintWords Go.Proofs.YtejpnfaaboicdaaW.PrintLast Go.Proofs.YtejpnfaaboicdaaW.PrintMore
set_option linter.unusedVariables false
set_option linter.unusedSimpArgs false
theorem tm {n m : Int} (h : 0 ≤ n) (hm : 0 < m) : 0 ≤ Int.tmod n m ∧ Int.tmod n m < m := by
  rw [Int.tmod_eq_emod_of_nonneg h]
  exact ⟨Int.emod_nonneg n (by omega), Int.emod_lt_of_pos n hm⟩
theorem sq_lt {a b : Int} (ha : 0 ≤ a) (h : a < b) : sq a < sq b := by
  rw [← sq_mul a ha, ← sq_mul b (by omega)]
  have h1 : a * a ≤ a * b := Int.mul_le_mul_of_nonneg_left (by omega) ha
  have h2 : a * b < b * b := Int.mul_lt_mul_of_pos_right h (by omega)
  omega
theorem DemApart : compositorlaw21_DemApart.Pure := by
  intro a0 bad more kind _ hb hm hk
  refine ⟨140 + a0.f4.length + 6, ?_⟩
  have ha : compositorlaw21_awake.f (140 + a0.f4.length + 6) = some true := awake_at _ (by omega)
  have hb := bounds_u16 hb
  have hm := bounds_u16 hm
  have hk := bounds_u8 hk
  unfold compositorlaw21_DemApart.f
  rw [ha]
  simp only [Option.bind_some]
  by_cases hl : (a0.f4.length : Int) > 100
  · rw [if_pos hl, compositorlaw21_DemApart.j0, if_pos rfl]
  · rw [if_neg hl, rcheck 140 a0.f0 a0.f1 a0.f2 a0.f3 a0.f4 a0.f5 a0.f6 a0.f7 a0.f8 a0.f9 a0.f10 a0.f11 a0.f12 a0.f13 a0.f14 a0.f15 a0.f16 a0.f17 a0.f18 a0.f19 a0.f20]
    simp only [Option.bind_some]
    cases hok : okLay a0.f0 a0.f1 a0.f2 a0.f3 a0.f4 a0.f5 a0.f6 a0.f7 a0.f8 a0.f9 a0.f10 a0.f11 a0.f12 a0.f13 a0.f14 a0.f15 a0.f16 a0.f17 a0.f18 a0.f19 a0.f20 with
    | false => rw [compositorlaw21_DemApart.j0]; rfl
    | true =>
      have hlay := okLay_iff a0.f0 a0.f1 a0.f2 a0.f3 a0.f4 a0.f5 a0.f6 a0.f7 a0.f8 a0.f9 a0.f10 a0.f11 a0.f12 a0.f13 a0.f14 a0.f15 a0.f16 a0.f17 a0.f18 a0.f19 a0.f20 hok
      have h12 := hlay.b12
      rw [compositorlaw21_DemApart.j0, wrap_in (n := bad) (by omega) (by omega), wrap_in (n := more) (by omega) (by omega), wrap_in (n := kind) (by omega) (by omega), if_neg (show ¬ ((!true) = true) by simp)]
      obtain ⟨a, hae⟩ : ∃ a, a = Int.tmod bad 10001 := ⟨_, rfl⟩
      obtain ⟨q, hqe⟩ : ∃ q, q = Int.tmod kind 6 := ⟨_, rfl⟩
      have ha1 := tm (n := bad) (m := 10001) (by omega) (by omega)
      rw [← hae] at ha1 ⊢
      rw [← hqe]
      rw [wrap_in (n := a + more) (by omega) (by omega)]
      obtain ⟨b, hbe⟩ : ∃ b, b = mn 10000 (a + more) := ⟨_, rfl⟩
      have hb1 : a ≤ b ∧ b ≤ 10000 := by rw [hbe]; unfold mn; split <;> omega
      rw [← hbe]
      have own := fun c kd h0 h1 => own_yes (140 + a0.f4.length + 3) a0.f0 a0.f1 a0.f2 a0.f3 a0.f4 a0.f5 a0.f6 a0.f7 a0.f8 a0.f9 a0.f10 a0.f11 a0.f12 a0.f13 a0.f14 a0.f15 a0.f16 a0.f17 a0.f18 a0.f19 a0.f20 c kd hok h0 h1
      have p1 : ∀ h d, pen h d 1 = 0 := fun _ _ => rfl
      have p0 : ∀ h d, pen h d 0 = 0 := fun _ _ => rfl
      have p5 : ∀ h d, pen h d 5 = 0 := fun _ _ => rfl
      have p2 : ∀ h d, pen h d 2 = h := fun _ _ => rfl
      have p3 : ∀ h d, pen h d 3 = h := fun _ _ => rfl
      have ea := sq_b (n := a0.f12 + a) (m := 11000) (by omega) (by omega)
      have eb := sq_b (n := a0.f12 + b) (m := 11000) (by omega) (by omega)
      have ep := sq_b (n := pen a0.f13 a0.f14 q) (m := 1000) (by omega) (pen_b hlay.b13 hlay.b14)
      have s0 : sq 0 = 0 := rfl
      rw [own a q (by omega) (by omega), own a 1 (by omega) (by omega), own b q (by omega) (by omega), own b 1 (by omega) (by omega)]
      simp only [Option.bind_some]
      have e1 : wrap64 (ownV a0.f12 a0.f13 a0.f14 b q - ownV a0.f12 a0.f13 a0.f14 b 1) = wrap64 (ownV a0.f12 a0.f13 a0.f14 a q - ownV a0.f12 a0.f13 a0.f14 a 1) := by
        congr 1
        unfold ownV
        omega
      rw [if_pos trivial, if_pos e1]
      have last : ((dem_Own.f (140 + a0.f4.length + 5) a0.f0 a0.f1 a0.f2 a0.f3 a0.f4 a0.f5 a0.f6 a0.f7 a0.f8 a0.f9 a0.f10 a0.f11 a0.f12 a0.f13 a0.f14 a0.f15 a0.f16 a0.f17 a0.f18 a0.f19 a0.f20 a 0).bind fun t251 => ((dem_Own.f (140 + a0.f4.length + 5) a0.f0 a0.f1 a0.f2 a0.f3 a0.f4 a0.f5 a0.f6 a0.f7 a0.f8 a0.f9 a0.f10 a0.f11 a0.f12 a0.f13 a0.f14 a0.f15 a0.f16 a0.f17 a0.f18 a0.f19 a0.f20 a 5).bind fun t252 => (if t251 = t252 then ((dem_Own.f (140 + a0.f4.length + 5) a0.f0 a0.f1 a0.f2 a0.f3 a0.f4 a0.f5 a0.f6 a0.f7 a0.f8 a0.f9 a0.f10 a0.f11 a0.f12 a0.f13 a0.f14 a0.f15 a0.f16 a0.f17 a0.f18 a0.f19 a0.f20 a 2).bind fun t253 => ((dem_Own.f (140 + a0.f4.length + 5) a0.f0 a0.f1 a0.f2 a0.f3 a0.f4 a0.f5 a0.f6 a0.f7 a0.f8 a0.f9 a0.f10 a0.f11 a0.f12 a0.f13 a0.f14 a0.f15 a0.f16 a0.f17 a0.f18 a0.f19 a0.f20 a 3).bind fun t254 => (some (t253 == t254)))) else (none)))) = some true := by
        rw [own a 0 (by omega) (by omega), own a 5 (by omega) (by omega), own a 2 (by omega) (by omega), own a 3 (by omega) (by omega)]
        simp only [Option.bind_some, ownV, p0, p5, p2, p3, if_true, beq_self_eq_true]
      by_cases hab : a = b
      · rw [if_pos hab]
        exact last
      · rw [if_neg hab]
        have hlt : ownV a0.f12 a0.f13 a0.f14 a q < ownV a0.f12 a0.f13 a0.f14 b q := by
          have := sq_lt (a := a0.f12 + a) (b := a0.f12 + b) (by omega) (by omega)
          unfold ownV
          omega
        rw [if_pos hlt]
        exact last
end Go.Proofs.Ytejpnfaaboicdaa.Pure
