/- Contracts of the functions of this seat: what each call computes, as a plain Lean function. Made by this session's own generator. -/
import Derived.Test.YtlkoaiogdkmglaaGx0
import Derived.Test.YtlkoaiogdkmglaaGx4
import Derived.Test.YtlkoaiogdkmglaaGx6
namespace Go.Proofs.Ytlkoaiogdkmglaa.G
open Go.RowKit Go.Proofs.YtlkoaiogdkmglaaW.PrintWords Go.Proofs.YtlkoaiogdkmglaaW.PrintLast Go.Proofs.YtlkoaiogdkmglaaW.PrintMore
attribute [local go_sem] max2_int min2_int max_two min_two max_three min_three max_four min_four   -- for this text's walks alone
set_option linter.unusedVariables false
set_option linter.unusedSimpArgs false

/-! ### pack_TakeFix: function 16 -/
def pack_TakeFix.f (k : Nat) (l0 : List Int) : Option (Int × List Int × Int) := (pack_Take.f k l0 4).bind fun b => some (wrap64 (wrap32 (b.1 % 4294967296)), b.2.1, b.2.2)
theorem pack_TakeFix.mono : ∀ a0 k, LeO (pack_TakeFix.f k a0) (pack_TakeFix.f (k + 1) a0) := by
  intro a0 k
  unfold pack_TakeFix.f
  exact LeO.bind (pack_Take.mono _ _ _) (fun _ => LeO.refl _)
set_option maxHeartbeats 4000000 in
theorem pack_TakeFix.calls (k : Nat) (A0 : Option Addr) (c0 : Nat) (l0 : List Int) (r1 : Int) (r2 : List Int) (r3 : Int) (w : World) (hr0 : Kd.C (Kd.int .u8) w A0 l0.length l0) (hc0 : l0.length ≤ c0) (h : pack_TakeFix.f k l0 = some (r1, r2, r3)) :
    Calls Try.prog 16 #[.slice A0 l0.length c0] w fun e w' => ∃ v1_ : Value, e = .returned (.tuple #[.int .i64 r1, v1_, .int .i64 r3]) ∧ Kd.R (Kd.int .u8) 5 w' w.heap.size (fun _ => True) v1_ r2 ∧ Below w.heap.size w w' := by
  have HR0 := Aside0.mk hr0
  have HC0 := Aside0.mk hc0
  clear hr0 hc0
  unfold pack_TakeFix.f at h
  obtain ⟨⟨b1, b2, b3⟩, hT, h⟩ := Option.bind_eq_some_iff.mp h
  simp only [Option.some.injEq, Prod.mk.injEq] at h
  obtain ⟨rfl, rfl, rfl⟩ := h
  have H := Aside0.mk hT
  clear hT
  go_enter Try.func16, Try.ntmps16
  go_wp2_with (first | (go_at_call 21; (with_reducible refine (pack_ways.calls _).mono ?_); rintro e w' ⟨rfl, rfl⟩) | (go_at_call 23; (with_reducible refine (pack_ways.c2 _ _).mono ?_); rintro e w' ⟨rfl, rfl⟩) | (go_at_call 14; (with_reducible refine (pack_Take.calls k A0 c0 l0 4 b1 b2 b3 _ HR0.out HC0.out H.out).mono ?_); rintro e w' ⟨v0, rfl, hr, hb⟩))
  go_ret3
  exact ⟨_, rfl, hr, hb⟩


end Go.Proofs.Ytlkoaiogdkmglaa.G
