/- RiverMoves: for every input the law's call returns true, and each argument reads behind it as it read before: out of its one pure statement and the contract of its walk. -/
import Derived.Test.YtpicbjcpdngmlaaRows
import Derived.Test.YtpicbjcpdngmlaaGStRiverMoves
import Derived.Test.YtpicbjcpdngmlaaPureRiverMoves
import Derived.WalkKit
import Derived.ProofKit
import Derived.OpenShut
import Derived.ShutString
import Derived.ChangeOld
import Derived.Below
import Derived.SizedLaws
namespace Go.Proofs.Ytpicbjcpdngmlaa.riverMoves
open Go.ChangeShapes Go.WideShapes Go.ChangeAt Go.RowKit Go.Proofs.YtpicbjcpdngmlaaW.PrintWords Go.Proofs.Ytpicbjcpdngmlaa.G Go.Proofs.Ytpicbjcpdngmlaa.O
open Go.ChangeMaps (open_string shut_string)
set_option linter.unusedVariables false
theorem own : ownKnob Try.prog.godebug = none := by kernel_rfl
theorem laidOut : laidOutB Try.prog = true := by kernel_rfl
set_option maxRecDepth 100000 in
theorem lifted (os : Os) (started : os.Started) (H : Type) (enc : TypeId × Value → H) :
    ReturnsInHanded {} Try.checked os 6 .any (Rows.riverMovesSpec.pre6 enc Try.prog Try.f6 Rows.riverMovesRow.domain false) (Rows.riverMovesSpec.post enc Try.prog Try.f6 false true false false) := by
  refine returnsInHanded_of_change_sized (C := Try.checked) own started (by kernel_rfl) Try.func6
    (ChangeSpec.witness6 (enc := enc) (C := Try.checked) false ⟨#[], #[.agg #[.int .i64 0, .int .i64 0, .int .i64 0, .int .i64 0, .slice none 0 0], .agg #[.int .i64 0, .int .i64 0, .int .i64 0, .int .i64 0, .slice none 0 0], .int .i32 0], []⟩ 8 (by kernel_rfl) (by kernel_rfl) (by kernel_rfl) (by kernel_rfl)) ?_
  intro W base args ds gs before hval0 hW hcnd hsz0 _
  have hsz : (DataW.weightsEach Try.prog (Try.f6.params.toList ++ Rows.riverMovesSpec.plain.varTypes Try.prog) (ds ++ gs)).all (· ≤ reachBytes) = true := hsz0
  have hval : ∀ (j : Nat) t v, Try.f6.params[j]? = some t → args[j]? = some v → Value.okWide Try.prog W .any base t v := hval0
  have hW' := hW
  obtain ⟨p, q, hA0, hV, rfl, hfz, hnd⟩ := hW
  have hA : DataW.TrodAll enc Try.prog W 0 (fun _ => true) true Try.f6.params.toList args.toList ds p := hA0
  rw [Try.params6] at hA hval hsz
  obtain ⟨v0, vs0, d0, ds0, p0, q0, hargs, rfl, rfl, h0, r0⟩ := trodAll_cons hA
  obtain ⟨v1, vs1, d1, ds1, p1, q1, rfl, rfl, rfl, h1, r1⟩ := trodAll_cons r0
  obtain ⟨v2, vs2, d2, ds2, p2, q2, rfl, rfl, rfl, h2, r2⟩ := trodAll_cons r1
  obtain ⟨rfl, rfl, rfl⟩ := trodAll_nil r2
  obtain rfl : args = #[v0, v1, v2] := by cases args; simp_all
  obtain ⟨rfl, rfl⟩ := trodVars_none hV
  have lt0 : ∀ x ∈ p0, x.block < W.heap.size := by obtain ⟨m, hm⟩ := h0; exact DataW.trod_lt m _ _ _ hm
  obtain ⟨cs0, rfl⟩ := Go.Proofs.Ytpicbjcpdngmlaa.O.okWide_struct Try.underlying24 (hval 0 24 v0 rfl rfl)
  obtain ⟨a0, K0, g0⟩ := opens_at opens24 hsz (j := 0) (t := 24) rfl rfl h0
  obtain ⟨A0_4, c0_4, hcs0, hl0_4, hC0_4⟩ := k24_open K0
  obtain rfl := agg_cells hcs0
  have lt1 : ∀ x ∈ p1, x.block < W.heap.size := by obtain ⟨m, hm⟩ := h1; exact DataW.trod_lt m _ _ _ hm
  obtain ⟨cs1, rfl⟩ := Go.Proofs.Ytpicbjcpdngmlaa.O.okWide_struct Try.underlying24 (hval 1 24 v1 rfl rfl)
  obtain ⟨a1, K1, g1⟩ := opens_at opens24 hsz (j := 1) (t := 24) rfl rfl h1
  obtain ⟨A1_4, c1_4, hcs1, hl1_4, hC1_4⟩ := k24_open K1
  obtain rfl := agg_cells hcs1
  obtain ⟨a2, rfl, rfl, rfl, g2⟩ := open_int Try.underlying21 (hval 2 21 v2 rfl rfl) h2
  clear hA0 hval0 hsz0 hsz
  obtain ⟨k, hk⟩ := Pure.RiverMoves a0 a1 a2 g0 g1 g2
  refine (G.compositorlaw20_RiverMoves.calls (k := k) (w := W) (hr0_4 := hC0_4) (hc0_4 := hl0_4) (hr1_4 := hC1_4) (hc1_4 := hl1_4) (h := hk)).mono fun e W' ⟨he, bel0⟩ => ?_
  subst he
  have bel : Below W.heap.size W W' := by first | exact bel0 | exact bel0.below
  exact ⟨_, rfl, _, _, _, [], _, [], hW', trodAll_mk1 (shut_bool Try.underlying4 _), (trodAll_cons_mk (Below.trod laidOut (by kernel_rfl) (of_decide_eq_true (by kernel_rfl)) h0 bel lt0) (trodAll_cons_mk (Below.trod laidOut (by kernel_rfl) (of_decide_eq_true (by kernel_rfl)) h1 bel lt1) (trodAll_cons_mk (shut_int Try.underlying21 g2) trodAll_mk0))), rfl, bel.frame _, fun h => by cases h⟩
theorem over : Rows.riverMovesRow.holds Try.pinned (OpenSpec.ofChange Rows.riverMovesSpec) :=
  OpenClaim.holds_of_wide 6 Try.f6 rfl rfl rfl rfl rfl rfl rfl ⟨rfl, rfl, rfl, rfl, rfl⟩ rfl rfl rfl rfl rfl (by kernel_rfl) Try.func6 (by kernel_rfl)
    (of_decide_eq_true (by kernel_rfl)) (by unfold Func.isWrapper; first | (rw [if_pos (by decide +kernel)]; kernel_rfl) | (rw [if_neg (by decide +kernel)]; exact ⟨rfl, rfl⟩))
    (fun os started H enc _ => lifted os started H enc)
theorem proved : Rows.RiverMovesSaid := over
#print axioms proved
end Go.Proofs.Ytpicbjcpdngmlaa.riverMoves
namespace Go.Proofs.Ytpicbjcpdngmlaa
/-- The row, under a short name, for the claim. -/
theorem riverMoves_holds : Rows.RiverMovesSaid := riverMoves.proved
end Go.Proofs.Ytpicbjcpdngmlaa
