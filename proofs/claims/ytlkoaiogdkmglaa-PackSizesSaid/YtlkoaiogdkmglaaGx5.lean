/- Contracts of the functions of this seat: what each call computes, as a plain Lean function. Made by this session's own generator. -/
import Derived.Test.YtlkoaiogdkmglaaGx0
import Derived.Test.YtlkoaiogdkmglaaGx3
import Derived.Test.YtlkoaiogdkmglaaGx4
namespace Go.Proofs.Ytlkoaiogdkmglaa.G
open Go.RowKit Go.Proofs.YtlkoaiogdkmglaaW.PrintWords Go.Proofs.YtlkoaiogdkmglaaW.PrintLast Go.Proofs.YtlkoaiogdkmglaaW.PrintMore
attribute [local go_sem] max2_int min2_int max_two min_two max_three min_three max_four min_four   -- for this text's walks alone
set_option linter.unusedVariables false
set_option linter.unusedSimpArgs false

/-! ### pack_PutFix: function 12 -/
def pack_PutFix.f (k : Nat) (l0 : List Int) (a1 : Int) : Option (List Int × Int) := if a1 < -2147483648 then some ([], 60) else if a1 ≥ 2147483648 then some ([], 60) else pack_Put.f k l0 (wrap32 a1 % 4294967296) 4
theorem pack_PutFix.mono : ∀ a0 a1 k, LeO (pack_PutFix.f k a0 a1) (pack_PutFix.f (k + 1) a0 a1) := by
  intro a0 a1 k
  unfold pack_PutFix.f
  repeat' first
    | (with_reducible exact pack_Put.mono _ _ _ _)
    | (with_reducible exact LeO.refl _)
    | (with_reducible refine LeO.ite ?_ ?_)
set_option maxHeartbeats 4000000 in
theorem pack_PutFix.calls (k : Nat) (A0 : Option Addr) (c0 : Nat) (l0 : List Int) (a1 : Int) (r1 : List Int) (r2 : Int) (w : World) (hr0 : Kd.C (Kd.int .u8) w A0 l0.length l0) (hc0 : l0.length ≤ c0) (h : pack_PutFix.f k l0 a1 = some (r1, r2)) :
    Calls Try.prog 12 #[.slice A0 l0.length c0, .int .i64 a1] w fun e w' => ∃ v0_ : Value, e = .returned (.tuple #[v0_, .int .i64 r2]) ∧ Kd.R (Kd.int .u8) 5 w' w.heap.size (fun _ => True) v0_ r1 ∧ Below w.heap.size w w' := by
  have HR0 := Aside0.mk hr0
  have HC0 := Aside0.mk hc0
  clear hr0 hc0
  unfold pack_PutFix.f at h
  by_cases c1 : a1 < -2147483648
  · rw [if_pos c1] at h
    simp only [Option.some.injEq, Prod.mk.injEq] at h
    obtain ⟨rfl, rfl⟩ := h
    go_enter Try.func12, Try.ntmps12
    go_wp2
    go_ret2
    exact ⟨_, rfl, Kd.R_nil _ _ _ _ _, Below.refl _ _⟩
  · rw [if_neg c1] at h
    by_cases c2 : a1 ≥ 2147483648
    · rw [if_pos c2] at h
      simp only [Option.some.injEq, Prod.mk.injEq] at h
      obtain ⟨rfl, rfl⟩ := h
      go_enter Try.func12, Try.ntmps12
      go_wp2
      go_ret2
      exact ⟨_, rfl, Kd.R_nil _ _ _ _ _, Below.refl _ _⟩
    · rw [if_neg c2] at h
      have H := Aside0.mk h
      clear h
      go_enter Try.func12, Try.ntmps12
      go_wp2_with (first | (go_at_call 21; (with_reducible refine (pack_ways.calls _).mono ?_); rintro e w' ⟨rfl, rfl⟩) | (go_at_call 22; (with_reducible refine (pack_ways.c1 _ _).mono ?_); rintro e w' ⟨rfl, rfl⟩) | (go_at_call 10; (with_reducible refine (pack_Put.calls k A0 c0 l0 _ 4 r1 r2 _ HR0.out HC0.out H.out).mono ?_); rintro e w' ⟨v0, rfl, hr, hb⟩))
      go_ret2
      exact ⟨_, rfl, hr, hb⟩

end Go.Proofs.Ytlkoaiogdkmglaa.G
