/- Without a shape, and without an indent that hangs, all lines are as wide as the layout, from the first one on; with an indent just two widths are there. -/
import Derived.Test.YtogkaifcelooaaaLShape
import Derived.Test.YtogkaifcelooaaaLAwake
import Derived.Test.YtogkaifcelooaaaGStShapePlain
namespace Go.Proofs.Ytogkaifcelooaaa.Pure
open Go.RowKit Go.Proofs.Ytogkaifcelooaaa.G Go.Proofs.Ytogkaifcelooaaa.L Go.Proofs.YtogkaifcelooaaaW.PrintWords Go.Proofs.YtogkaifcelooaaaW.PrintLast Go.Proofs.YtogkaifcelooaaaW.PrintMore
set_option linter.unusedVariables false
set_option linter.unusedSimpArgs false
theorem tm {n m : Int} (h : 0 ≤ n) (hm : 0 < m) : 0 ≤ Int.tmod n m ∧ Int.tmod n m < m := by
  rw [Int.tmod_eq_emod_of_nonneg h]
  exact ⟨Int.emod_nonneg n (by omega), Int.emod_lt_of_pos n hm⟩
theorem hang0 (x0 x1 x2 x3 : Int) (x5 x6 x7 x8 x9 x10 x11 x12 x13 x14 x15 x16 x17 x18 x19 x20 : Int) (h : okLay x0 x1 x2 x3 [] x5 x6 x7 x8 x9 x10 x11 x12 x13 x14 x15 x16 x17 x18 x19 x20 = true) : okLay x0 x1 x2 x3 [] 0 x6 x7 x8 x9 x10 x11 x12 x13 x14 x15 x16 x17 x18 x19 x20 = true := by
  unfold okLay at h ⊢
  simp only [Bool.and_eq_true, inB_iff, decide_eq_true_eq] at h ⊢
  refine ⟨h.1, h.2.1, h.2.2.1, h.2.2.2.1, h.2.2.2.2.1, ⟨by omega, by omega⟩, h.2.2.2.2.2.2⟩
theorem plain (x0 x6 k : Int) : leftV x0 ([] : List S27) 0 x6 k = (0, x0) := by
  unfold leftV
  rw [if_neg (by simp)]
  split <;> simp
theorem ShapePlain : compositorlaw15_ShapePlain.Pure := by
  intro a0 line _ hl
  have hl := bounds_u8 hl
  unfold compositorlaw15_ShapePlain.f
  rw [awake_t]
  simp only [Option.bind_some]
  rw [wrap_in (n := line) (by omega) (by omega)]
  obtain ⟨q, hqe⟩ : ∃ q, q = Int.tmod line 200 := ⟨_, rfl⟩
  have hq := tm (n := line) (m := 200) (by omega) (by omega)
  rw [← hqe] at hq ⊢
  rw [wrap_in (n := 1 + q) (by omega) (by omega), at_f, at_f, from_f]
  simp only [Option.bind_some]
  cases hok : okLay a0.f0 a0.f1 a0.f2 a0.f3 [] a0.f5 a0.f6 a0.f7 a0.f8 a0.f9 a0.f10 a0.f11 a0.f12 a0.f13 a0.f14 a0.f15 a0.f16 a0.f17 a0.f18 a0.f19 a0.f20 with
  | false => simp [atV]
  | true =>
    rw [hang0 _ _ _ _ _ _ _ _ _ _ _ _ _ _ _ _ _ _ _ _ hok]
    have hb := okLay_iff _ _ _ _ _ _ _ _ _ _ _ _ _ _ _ _ _ _ _ _ _ hok
    have b0 := hb.b0
    have b5 := hb.b5
    have e : ∀ v, atV true (1 + q) v = (v.1, v.2, 0) := by
      intro v
      unfold atV
      rw [if_pos rfl, if_neg (by omega), if_neg (by omega)]
    have hf := from_first (leftV a0.f0 ([] : List S27) 0 a0.f6)
    have h1 : fromV (leftV a0.f0 ([] : List S27) 0 a0.f6) = 1 := by
      by_cases c : 1 < fromV (leftV a0.f0 ([] : List S27) 0 a0.f6)
      · exact absurd (by rw [plain, plain]) (hf.other c)
      · have := hf.lo; omega
    rw [e, e, plain, h1]
    simp only [if_true, beq_self_eq_true, Bool.and_self]
    by_cases c : (leftV a0.f0 ([] : List S27) a0.f5 a0.f6 (1 + q)) = (0, a0.f0)
    · rw [c]; simp
    · have h2 : ((leftV a0.f0 ([] : List S27) a0.f5 a0.f6 (1 + q)).1 == 0 && (leftV a0.f0 ([] : List S27) a0.f5 a0.f6 (1 + q)).2 == a0.f0) = false := by
        rw [Bool.eq_false_iff]
        intro h
        simp only [Bool.and_eq_true, beq_iff_eq] at h
        exact c (Prod.ext h.1 h.2)
      rw [if_neg (by rw [h2]; simp), wrap_in (n := -a0.f5) (by omega) (by omega)]
      have h3 : leftV a0.f0 ([] : List S27) a0.f5 a0.f6 (1 + q) = (if a0.f5 < 0 then 0 else a0.f5, if a0.f5 < 0 then a0.f0 + a0.f5 else a0.f0 - a0.f5) := by
        have h4 := c
        unfold leftV at h4 ⊢
        rw [if_neg (by simp)] at h4 ⊢
        by_cases d : (if a0.f6 < 0 then decide (1 + q ≤ -a0.f6) else decide (1 + q > a0.f6)) = true
        · rw [if_pos d]
        · rw [if_neg d] at h4
          exact absurd rfl h4
      rw [h3]
      by_cases d : a0.f5 < 0
      · have e1 : mx a0.f5 (-a0.f5) = -a0.f5 := by unfold mx; split <;> omega
        have e2 : mx a0.f5 0 = 0 := by unfold mx; split <;> omega
        rw [e1, e2, wrap_in (n := a0.f0 - -a0.f5) (by omega) (by omega)]
        simp only [d, if_true]
        rw [if_pos (by omega)]
        rfl
      · have e1 : mx a0.f5 (-a0.f5) = a0.f5 := by unfold mx; split <;> omega
        have e2 : mx a0.f5 0 = a0.f5 := by unfold mx; split <;> omega
        rw [e1, e2, wrap_in (n := a0.f0 - a0.f5) (by omega) (by omega)]
        simp only [d, if_false]
        simp
end Go.Proofs.Ytogkaifcelooaaa.Pure
