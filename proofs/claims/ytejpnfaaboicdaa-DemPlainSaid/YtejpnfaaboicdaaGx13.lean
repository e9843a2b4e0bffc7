/- Contracts of the functions of this seat: what each call computes, as a plain Lean function. Made by this session's own generator. -/
import Derived.Test.YtejpnfaaboicdaaGx0
import Derived.Test.YtejpnfaaboicdaaGx12
namespace Go.Proofs.Ytejpnfaaboicdaa.G
open Go.RowKit Go.Proofs.YtejpnfaaboicdaaMy Go.Proofs.YtejpnfaaboicdaaW.PrintWords Go.Proofs.YtejpnfaaboicdaaW.PrintLast Go.Proofs.YtejpnfaaboicdaaW.PrintMore
attribute [local go_sem] max2_int min2_int max_two min_two max_three min_three max_four min_four   -- for this text's walks alone
set_option linter.unusedVariables false
set_option linter.unusedSimpArgs false

/-! ### compositorref21_Next: function 12 -/
-- by hand
def compositorref21_Next.f (a0_0 : Int) (a0_1 : Int) (a0_2 : Int) (a1 : Int) (a2 : Int) : Option (Int × Int × Int) := (compositorref21_hyphen.f a1).bind fun t197 => (if t197 = true then (if a0_2 ≥ 4 then (some (a1, a2, 4)) else (if a0_2 ≥ 1 then (some (a1, a2, wrap64 (a0_2 + 1))) else (some (a1, a2, 1)))) else (some (a1, a2, 0)))
theorem compositorref21_Next.yes (k : Int) (w : World) (h : compositorref21_hyphen.f k = some true) : Calls Try.prog 22 #[.int .i64 k] w fun e w' => e = .returned (.bool true) ∧ w = w' := by
  unfold compositorref21_hyphen.f at h
  by_cases h2 : k = 2
  · subst h2
    go_enter Try.func22, Try.ntmps22
    go_wp2
    go_ret
    exact ⟨rfl, rfl⟩
  · by_cases h3 : k = 3
    · subst h3
      go_enter Try.func22, Try.ntmps22
      go_wp2
      go_ret
      exact ⟨rfl, rfl⟩
    · simp [h2, h3] at h
theorem compositorref21_Next.no (k : Int) (w : World) (h : compositorref21_hyphen.f k = some false) : Calls Try.prog 22 #[.int .i64 k] w fun e w' => e = .returned (.bool false) ∧ w = w' := by
  unfold compositorref21_hyphen.f at h
  have h2 : k ≠ 2 := by rintro rfl; simp at h
  have h3 : k ≠ 3 := by rintro rfl; simp at h
  have b2 : (k == 2) = false := by simpa using h2
  have b3 : (k == 3) = false := by simpa using h3
  go_enter Try.func22, Try.ntmps22
  go_wp2
  go_ret
  exact ⟨rfl, rfl⟩
set_option maxHeartbeats 8000000 in
set_option maxRecDepth 100000 in
theorem compositorref21_Next.calls (a0_0 : Int) (a0_1 : Int) (a0_2 : Int) (a1 : Int) (a2 : Int) (r1 : Int) (r2 : Int) (r3 : Int) (w : World) (h : compositorref21_Next.f a0_0 a0_1 a0_2 a1 a2 = some (r1, r2, r3)) :
    Calls Try.prog 12 #[.agg #[.int .i64 a0_0, .int .i64 a0_1, .int .i64 a0_2], .int .i64 a1, .int .i64 a2] w fun e w' => e = .returned (.agg #[.int .i64 r1, .int .i64 r2, .int .i64 r3]) ∧ Below w.heap.size w w' := by
  have hu26 := Try.underlying26
  obtain ⟨t, ht, h⟩ := Option.bind_eq_some_iff.mp h
  have HT := Aside0.mk ht
  clear ht
  cases t with
  | false =>
    replace h : some (a1, a2, (0 : Int)) = some (r1, r2, r3) := h
    simp only [Option.some.injEq, Prod.mk.injEq] at h
    obtain ⟨rfl, rfl, rfl⟩ := h
    go_enter Try.func12, Try.ntmps12
    go_wp2_with (go_at_call 22; (with_reducible refine (compositorref21_Next.no _ _ HT.out).mono ?_); rintro e w' ⟨rfl, rfl⟩)
    exact bodyPost_ret (v := .agg #[.int .i64 a1, .int .i64 a2, .int .i64 0]) (by simp [results, Try.results12, go_sem]) rfl ⟨rfl, by repeat (first | (with_reducible first | apply below_alloc | (refine Below.setCell ?_ (by simp) _) | (refine Below.setCell ?_ (by simp; omega) _)) | exact Below.refl _ _)⟩
  | true =>
    replace h : (if a0_2 ≥ 4 then (some (a1, a2, 4)) else (if a0_2 ≥ 1 then (some (a1, a2, wrap64 (a0_2 + 1))) else (some (a1, a2, 1)))) = some (r1, r2, r3) := h
    by_cases c4 : a0_2 ≥ 4
    · rw [if_pos c4] at h
      simp only [Option.some.injEq, Prod.mk.injEq] at h
      have c4b : decide (4 ≤ a0_2) = true := decide_eq_true c4
      clear c4
      obtain ⟨rfl, rfl, rfl⟩ := h
      go_enter Try.func12, Try.ntmps12
      go_wp2_with (go_at_call 22; (with_reducible refine (compositorref21_Next.yes _ _ HT.out).mono ?_); rintro e w' ⟨rfl, rfl⟩)
      exact bodyPost_ret (v := .agg #[.int .i64 a1, .int .i64 a2, .int .i64 4]) (by simp [results, Try.results12, go_sem]) rfl ⟨rfl, by repeat (first | (with_reducible first | apply below_alloc | (refine Below.setCell ?_ (by simp) _) | (refine Below.setCell ?_ (by simp; omega) _)) | exact Below.refl _ _)⟩
    · rw [if_neg c4] at h
      have c4b : decide (4 ≤ a0_2) = false := decide_eq_false c4
      by_cases c1 : a0_2 ≥ 1
      · rw [if_pos c1] at h
        simp only [Option.some.injEq, Prod.mk.injEq] at h
        have c1b : decide (1 ≤ a0_2) = true := decide_eq_true c1
        clear c1 c4
        obtain ⟨rfl, rfl, rfl⟩ := h
        go_enter Try.func12, Try.ntmps12
        go_wp2_with (go_at_call 22; (with_reducible refine (compositorref21_Next.yes _ _ HT.out).mono ?_); rintro e w' ⟨rfl, rfl⟩)
        exact bodyPost_ret (v := .agg #[.int .i64 a1, .int .i64 a2, .int .i64 (wrap64 (a0_2 + 1))]) (by simp [results, Try.results12, go_sem]) rfl ⟨rfl, by repeat (first | (with_reducible first | apply below_alloc | (refine Below.setCell ?_ (by simp) _) | (refine Below.setCell ?_ (by simp; omega) _)) | exact Below.refl _ _)⟩
      · rw [if_neg c1] at h
        simp only [Option.some.injEq, Prod.mk.injEq] at h
        have c1b : decide (1 ≤ a0_2) = false := decide_eq_false c1
        clear c1 c4
        obtain ⟨rfl, rfl, rfl⟩ := h
        go_enter Try.func12, Try.ntmps12
        go_wp2_with (go_at_call 22; (with_reducible refine (compositorref21_Next.yes _ _ HT.out).mono ?_); rintro e w' ⟨rfl, rfl⟩)
        exact bodyPost_ret (v := .agg #[.int .i64 a1, .int .i64 a2, .int .i64 1]) (by simp [results, Try.results12, go_sem]) rfl ⟨rfl, by repeat (first | (with_reducible first | apply below_alloc | (refine Below.setCell ?_ (by simp) _) | (refine Below.setCell ?_ (by simp; omega) _)) | exact Below.refl _ _)⟩


/-! ### compositorref21_far: function 31 -/
def compositorref21_far.f (a0 : Int) (a1 : Int) : Option (Bool) := if (mn a0 a1) < (mx a0 a1) then (some (decide ((wrap64 ((mn a0 a1) + 1)) < (mx a0 a1)))) else (some false)
set_option maxHeartbeats 8000000 in
set_option maxRecDepth 100000 in
theorem compositorref21_far.calls (a0 : Int) (a1 : Int) (r : Bool) (w : World) (h : compositorref21_far.f a0 a1 = some r) :
    Calls Try.prog 31 #[.int .i64 a0, .int .i64 a1] w fun e w' => e = .returned (.bool r) ∧ Below w.heap.size w w' := by
  have HB := Aside0.mk (Below.refl w.heap.size w)
  have H : (if (mn a0 a1) < (mx a0 a1) then (some (decide ((wrap64 ((mn a0 a1) + 1)) < (mx a0 a1)))) else (some false)) = some r := h
  clear h
  obtain ⟨ji3, hji3⟩ : ∃ j_ : Int, (mn a0 a1) = j_ := ⟨_, rfl⟩
  replace H : (if (ji3) < (mx a0 a1) then (some (decide ((wrap64 ((ji3) + 1)) < (mx a0 a1)))) else (some false)) = some r := by first | (rw [hji3] at H; exact H) | (simp only [hji3] at H ⊢; exact H)
  have hji3_ : (if a1 < a0 then a1 else a0) = ji3 := hji3
  obtain ⟨ji4, hji4⟩ : ∃ j_ : Int, (mx a0 a1) = j_ := ⟨_, rfl⟩
  replace H : (if (ji3) < (ji4) then (some (decide ((wrap64 ((ji3) + 1)) < (ji4)))) else (some false)) = some r := by first | (rw [hji4] at H; exact H) | (simp only [hji4] at H ⊢; exact H)
  have hji4_ : (if a0 < a1 then a1 else a0) = ji4 := hji4
  by_cases c5 : (ji3) < (ji4)
  · rw [if_pos c5] at H
    have c5b0 : decide ((ji3) < (ji4)) = true := decide_eq_true c5
    clear c5
    obtain rfl := Option.some.inj H
    go_enter Try.func31, Try.ntmps31
    go_wp2
    go_ret
    exact ⟨by first | rfl | (simp [errW_none, errW_some] <;> rfl) | (simp only [← hji3, ← hji4]; first | rfl | (simp [errW_none, errW_some] <;> rfl)) | (simp [*, errW_none, errW_some] <;> rfl), by repeat (first | (with_reducible first | exact HB.out | apply below_alloc | apply pw_below_drewN | apply below_drew1) | exact HB.out)⟩
  · rw [if_neg c5] at H
    have c5b0 : decide ((ji3) < (ji4)) = false := decide_eq_false c5
    clear c5
    obtain rfl := Option.some.inj H
    go_enter Try.func31, Try.ntmps31
    go_wp2
    go_ret
    exact ⟨by first | rfl | (simp [errW_none, errW_some] <;> rfl) | (simp only [← hji3, ← hji4]; first | rfl | (simp [errW_none, errW_some] <;> rfl)) | (simp [*, errW_none, errW_some] <;> rfl), by repeat (first | (with_reducible first | exact HB.out | apply below_alloc | apply pw_below_drewN | apply below_drew1) | exact HB.out)⟩

end Go.Proofs.Ytejpnfaaboicdaa.G
