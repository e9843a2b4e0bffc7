/- A line has a width of at least 1, without a shape indent and width together are at most the layout's, and from the line that From says all are alike (at most a hundred lines of a shape). -/
import Derived.Test.YtogkaifcelooaaaLShape
import Derived.Test.YtogkaifcelooaaaLAwake
import Derived.Test.YtogkaifcelooaaaGStShapeFits
namespace Go.Proofs.Ytogkaifcelooaaa.Pure
open Go.RowKit Go.Proofs.Ytogkaifcelooaaa.G Go.Proofs.Ytogkaifcelooaaa.L Go.Proofs.YtogkaifcelooaaaW.PrintWords Go.Proofs.YtogkaifcelooaaaW.PrintLast Go.Proofs.YtogkaifcelooaaaW.PrintMore
set_option linter.unusedVariables false
set_option linter.unusedSimpArgs false
theorem tm {n m : Int} (h : 0 ≤ n) (hm : 0 < m) : 0 ≤ Int.tmod n m ∧ Int.tmod n m < m := by
  rw [Int.tmod_eq_emod_of_nonneg h]
  exact ⟨Int.emod_nonneg n (by omega), Int.emod_lt_of_pos n hm⟩
theorem left_w (x0 x1 x2 x3 : Int) (l : List S27) (x5 x6 x7 x8 x9 x10 x11 x12 x13 x14 x15 x16 x17 x18 x19 x20 : Int) (k : Int) (h : okLay x0 x1 x2 x3 l x5 x6 x7 x8 x9 x10 x11 x12 x13 x14 x15 x16 x17 x18 x19 x20 = true) (h1 : 1 ≤ k) (h2 : k ≤ 200) : 1 ≤ (leftV x0 l x5 x6 k).2 ∧ 0 ≤ (leftV x0 l x5 x6 k).1 ∧ (¬ (l.length : Int) > 0 → (leftV x0 l x5 x6 k).1 + (leftV x0 l x5 x6 k).2 ≤ x0) := by
  have hb := okLay_iff x0 x1 x2 x3 l x5 x6 x7 x8 x9 x10 x11 x12 x13 x14 x15 x16 x17 x18 x19 x20 h
  have b0 := hb.b0
  have b5 := hb.b5
  unfold leftV
  by_cases c : 0 < l.length
  · rw [if_pos c]
    obtain ⟨i, hi, he⟩ : ∃ i : Nat, i < l.length ∧ mn k (l.length : Int) - 1 = (i : Int) := ⟨(mn k (l.length : Int) - 1).toNat, by unfold mn; split <;> omega, by unfold mn; split <;> omega⟩
    rw [he, rd_line l i hi]
    have := hb.all l[i] (List.getElem_mem hi)
    exact ⟨this.2.1, this.1.1, fun h => absurd (by omega) h⟩
  · rw [if_neg c]
    by_cases d : (if x6 < 0 then decide (k ≤ -x6) else decide (k > x6)) = true
    · rw [if_pos d]
      by_cases e : x5 < 0
      · simp only [e, if_true]; omega
      · simp only [e, if_false]; omega
    · rw [if_neg d]
      simp only []
      omega
theorem ShapeFits : compositorlaw15_ShapeFits.Pure := by
  intro a0 line more _ hl hm
  have hl := bounds_u8 hl
  have hm := bounds_u8 hm
  refine ⟨20 + a0.f4.length + 6, ?_⟩
  unfold compositorlaw15_ShapeFits.f
  rw [awake_t]
  simp only [Option.bind_some]
  by_cases hs : (a0.f4.length : Int) > 100
  · rw [if_pos hs]
  · rw [if_neg hs, wrap_in (n := line) (by omega) (by omega), wrap_in (n := more) (by omega) (by omega)]
    obtain ⟨q, hqe⟩ : ∃ q, q = Int.tmod line 200 := ⟨_, rfl⟩
    have hq := tm (n := line) (m := 200) (by omega) (by omega)
    rw [← hqe] at hq ⊢
    rw [wrap_in (n := 1 + q) (by omega) (by omega), wrap_in (n := 1 + q + more) (by omega) (by omega)]
    obtain ⟨m, hme⟩ : ∃ m, m = mn 200 (1 + q + more) := ⟨_, rfl⟩
    have hm1 : 1 + q ≤ m ∧ m ≤ 200 := by rw [hme]; unfold mn; split <;> omega
    rw [← hme, at_f, at_f, from_f, rcheck 20]
    simp only [Option.bind_some]
    cases hok : okLay a0.f0 a0.f1 a0.f2 a0.f3 a0.f4 a0.f5 a0.f6 a0.f7 a0.f8 a0.f9 a0.f10 a0.f11 a0.f12 a0.f13 a0.f14 a0.f15 a0.f16 a0.f17 a0.f18 a0.f19 a0.f20 with
    | false => simp [atV]
    | true =>
      have hf := from_first (leftV a0.f0 a0.f4 a0.f5 a0.f6)
      have hw := left_w _ _ _ _ _ _ _ _ _ _ _ _ _ _ _ _ _ _ _ _ _ (1 + q) hok (by omega) (by omega)
      have ob := (okLay_iff _ _ _ _ _ _ _ _ _ _ _ _ _ _ _ _ _ _ _ _ _ hok).b0
      have e1 : atV true (1 + q) (leftV a0.f0 a0.f4 a0.f5 a0.f6 (1 + q)) = ((leftV a0.f0 a0.f4 a0.f5 a0.f6 (1 + q)).1, (leftV a0.f0 a0.f4 a0.f5 a0.f6 (1 + q)).2, 0) := by
        unfold atV
        rw [if_pos rfl, if_neg (by omega), if_neg (by omega)]
      have e2 : atV true m (leftV a0.f0 a0.f4 a0.f5 a0.f6 m) = ((leftV a0.f0 a0.f4 a0.f5 a0.f6 m).1, (leftV a0.f0 a0.f4 a0.f5 a0.f6 m).2, 0) := by
        unfold atV
        rw [if_pos rfl, if_neg (by omega), if_neg (by omega)]
      rw [e1, e2]
      simp only [if_true]
      have h1 := hf.lo
      have h2 := hf.hi
      have last : (if 1 + q < fromV (leftV a0.f0 a0.f4 a0.f5 a0.f6) then some true else some ((leftV a0.f0 a0.f4 a0.f5 a0.f6 (1 + q)).1 == (leftV a0.f0 a0.f4 a0.f5 a0.f6 m).1 && (leftV a0.f0 a0.f4 a0.f5 a0.f6 (1 + q)).2 == (leftV a0.f0 a0.f4 a0.f5 a0.f6 m).2)) = some true := by
        by_cases c : 1 + q < fromV (leftV a0.f0 a0.f4 a0.f5 a0.f6)
        · rw [if_pos c]
        · rw [if_neg c, hf.same (1 + q) (by omega) (by omega), hf.same m (by omega) (by omega)]
          simp
      have g1 : (leftV a0.f0 a0.f4 a0.f5 a0.f6 (1 + q)).2 ≥ 1 := hw.1
      have g2 : (leftV a0.f0 a0.f4 a0.f5 a0.f6 (1 + q)).1 ≥ 0 := hw.2.1
      have g3 : fromV (leftV a0.f0 a0.f4 a0.f5 a0.f6) ≥ 1 := h1
      rw [if_pos g1, if_pos g2]
      by_cases c : (a0.f4.length : Int) > 0
      · rw [if_pos c, if_pos g3, if_pos h2]
        exact last
      · have h3 := hw.2.2 c
        rw [if_neg c, wrap_in (n := (leftV a0.f0 a0.f4 a0.f5 a0.f6 (1 + q)).1 + (leftV a0.f0 a0.f4 a0.f5 a0.f6 (1 + q)).2) (by omega) (by omega), if_pos h3, if_pos g3, if_pos h2]
        exact last
end Go.Proofs.Ytogkaifcelooaaa.Pure
