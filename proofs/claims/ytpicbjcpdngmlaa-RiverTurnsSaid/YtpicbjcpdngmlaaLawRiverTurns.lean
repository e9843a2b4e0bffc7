/- RiverTurns: for every input the law's call returns true, and each argument reads behind it as it read before: out of its one pure statement and the contract of its walk. -/
import Derived.Test.YtpicbjcpdngmlaaRows
import Derived.Test.YtpicbjcpdngmlaaGStRiverTurns
import Derived.Test.YtpicbjcpdngmlaaPureRiverTurns
import Derived.WalkKit
import Derived.ProofKit
import Derived.OpenShut
import Derived.ShutString
import Derived.ChangeOld
import Derived.Below
import Derived.SizedLaws
namespace Go.Proofs.Ytpicbjcpdngmlaa.riverTurns
open Go.ChangeShapes Go.WideShapes Go.ChangeAt Go.RowKit Go.Proofs.YtpicbjcpdngmlaaW.PrintWords Go.Proofs.Ytpicbjcpdngmlaa.G Go.Proofs.Ytpicbjcpdngmlaa.O
open Go.ChangeMaps (open_string shut_string)
set_option linter.unusedVariables false
theorem own : ownKnob Try.prog.godebug = none := by kernel_rfl
theorem laidOut : laidOutB Try.prog = true := by kernel_rfl
set_option maxRecDepth 100000 in
theorem lifted (os : Os) (started : os.Started) (H : Type) (enc : TypeId × Value → H) :
    ReturnsInHanded {} Try.checked os 4 .any (Rows.riverTurnsSpec.pre6 enc Try.prog Try.f4 Rows.riverTurnsRow.domain false) (Rows.riverTurnsSpec.post enc Try.prog Try.f4 false true false false) := by
  refine returnsInHanded_of_change_sized (C := Try.checked) own started (by kernel_rfl) Try.func4
    (ChangeSpec.witness6 (enc := enc) (C := Try.checked) false ⟨#[], #[.agg #[.int .i64 0, .int .i64 0, .int .i64 0, .int .i64 0, .slice none 0 0], .agg #[.int .i64 0, .int .i64 0, .int .i64 0, .int .i64 0, .slice none 0 0]], []⟩ 8 (by kernel_rfl) (by kernel_rfl) (by kernel_rfl) (by kernel_rfl)) ?_
  intro W base args ds gs before hval0 hW hcnd hsz0 _
  have hsz : (DataW.weightsEach Try.prog (Try.f4.params.toList ++ Rows.riverTurnsSpec.plain.varTypes Try.prog) (ds ++ gs)).all (· ≤ reachBytes) = true := hsz0
  have hval : ∀ (j : Nat) t v, Try.f4.params[j]? = some t → args[j]? = some v → Value.okWide Try.prog W .any base t v := hval0
  have hW' := hW
  obtain ⟨p, q, hA0, hV, rfl, hfz, hnd⟩ := hW
  have hA : DataW.TrodAll enc Try.prog W 0 (fun _ => true) true Try.f4.params.toList args.toList ds p := hA0
  rw [Try.params4] at hA hval hsz
  obtain ⟨v0, vs0, d0, ds0, p0, q0, hargs, rfl, rfl, h0, r0⟩ := trodAll_cons hA
  obtain ⟨v1, vs1, d1, ds1, p1, q1, rfl, rfl, rfl, h1, r1⟩ := trodAll_cons r0
  obtain ⟨rfl, rfl, rfl⟩ := trodAll_nil r1
  obtain rfl : args = #[v0, v1] := by cases args; simp_all
  obtain ⟨rfl, rfl⟩ := trodVars_none hV
  have lt0 : ∀ x ∈ p0, x.block < W.heap.size := by obtain ⟨m, hm⟩ := h0; exact DataW.trod_lt m _ _ _ hm
  obtain ⟨cs0, rfl⟩ := Go.Proofs.Ytpicbjcpdngmlaa.O.okWide_struct Try.underlying24 (hval 0 24 v0 rfl rfl)
  obtain ⟨a0, K0, g0⟩ := opens_at opens24 hsz (j := 0) (t := 24) rfl rfl h0
  obtain ⟨A0_4, c0_4, hcs0, hl0_4, hC0_4⟩ := k24_open K0
  obtain rfl := agg_cells hcs0
  have lt1 : ∀ x ∈ p1, x.block < W.heap.size := by obtain ⟨m, hm⟩ := h1; exact DataW.trod_lt m _ _ _ hm
  obtain ⟨cs1, rfl⟩ := Go.Proofs.Ytpicbjcpdngmlaa.O.okWide_struct Try.underlying24 (hval 1 24 v1 rfl rfl)
  obtain ⟨a1, K1, g1⟩ := opens_at opens24 hsz (j := 1) (t := 24) rfl rfl h1
  obtain ⟨A1_4, c1_4, hcs1, hl1_4, hC1_4⟩ := k24_open K1
  obtain rfl := agg_cells hcs1
  clear hA0 hval0 hsz0 hsz
  obtain ⟨k, hk⟩ := Pure.RiverTurns a0 a1 g0 g1
  refine (G.compositorlaw20_RiverTurns.calls (k := k) (w := W) (hr0_4 := hC0_4) (hc0_4 := hl0_4) (hr1_4 := hC1_4) (hc1_4 := hl1_4) (h := hk)).mono fun e W' ⟨he, bel0⟩ => ?_
  subst he
  have bel : Below W.heap.size W W' := by first | exact bel0 | exact bel0.below
  exact ⟨_, rfl, _, _, _, [], _, [], hW', trodAll_mk1 (shut_bool Try.underlying4 _), (trodAll_cons_mk (Below.trod laidOut (by kernel_rfl) (of_decide_eq_true (by kernel_rfl)) h0 bel lt0) (trodAll_cons_mk (Below.trod laidOut (by kernel_rfl) (of_decide_eq_true (by kernel_rfl)) h1 bel lt1) trodAll_mk0)), rfl, bel.frame _, fun h => by cases h⟩
theorem over : Rows.riverTurnsRow.holds Try.pinned (OpenSpec.ofChange Rows.riverTurnsSpec) :=
  OpenClaim.holds_of_wide 4 Try.f4 rfl rfl rfl rfl rfl rfl rfl ⟨rfl, rfl, rfl, rfl, rfl⟩ rfl rfl rfl rfl rfl (by kernel_rfl) Try.func4 (by kernel_rfl)
    (of_decide_eq_true (by kernel_rfl)) (by unfold Func.isWrapper; first | (rw [if_pos (by decide +kernel)]; kernel_rfl) | (rw [if_neg (by decide +kernel)]; exact ⟨rfl, rfl⟩))
    (fun os started H enc _ => lifted os started H enc)
theorem proved : Rows.RiverTurnsSaid := over
#print axioms proved
end Go.Proofs.Ytpicbjcpdngmlaa.riverTurns
namespace Go.Proofs.Ytpicbjcpdngmlaa
/-- The row, under a short name, for the claim. -/
theorem riverTurns_holds : Rows.RiverTurnsSaid := riverTurns.proved
end Go.Proofs.Ytpicbjcpdngmlaa
