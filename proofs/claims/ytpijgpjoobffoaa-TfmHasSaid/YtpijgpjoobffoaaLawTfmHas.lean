/- TfmHas: for every input the law's call returns true, and each argument reads behind it as it read before: out of its one pure statement and the contract of its walk. -/
import Derived.Test.YtpijgpjoobffoaaRows
import Derived.Test.YtpijgpjoobffoaaGStTfmHas
import Derived.Test.YtpijgpjoobffoaaPureTfmHas
import Derived.WalkKit
import Derived.ProofKit
import Derived.OpenShut
import Derived.ShutString
import Derived.ChangeOld
import Derived.Below
import Derived.SizedLaws
namespace Go.Proofs.Ytpijgpjoobffoaa.tfmHas
open Go.ChangeShapes Go.WideShapes Go.ChangeAt Go.RowKit Go.Proofs.YtpijgpjoobffoaaW.PrintWords Go.Proofs.Ytpijgpjoobffoaa.G Go.Proofs.Ytpijgpjoobffoaa.O
open Go.ChangeMaps (open_string shut_string)
set_option linter.unusedVariables false
theorem own : ownKnob Try.prog.godebug = none := by kernel_rfl
theorem laidOut : laidOutB Try.prog = true := by kernel_rfl
set_option maxRecDepth 100000 in
theorem lifted (os : Os) (started : os.Started) (H : Type) (enc : TypeId × Value → H) :
    ReturnsInHanded {} Try.checked os 8 .any (Rows.tfmHasSpec.pre6 enc Try.prog Try.f8 Rows.tfmHasRow.domain false) (Rows.tfmHasSpec.post enc Try.prog Try.f8 false true false false) := by
  refine returnsInHanded_of_change_sized (C := Try.checked) own started (by kernel_rfl) Try.func8
    (ChangeSpec.witness6 (enc := enc) (C := Try.checked) false ⟨#[], #[.agg #[.int .i64 0, .int .i64 0, .int .i64 0, .slice none 0 0, .slice none 0 0, .slice none 0 0, .slice none 0 0, .slice none 0 0, .slice none 0 0, .slice none 0 0, .slice none 0 0], .int .i64 0], []⟩ 8 (by kernel_rfl) (by kernel_rfl) (by kernel_rfl) (by kernel_rfl)) ?_
  intro W base args ds gs before hval0 hW hcnd hsz0 _
  have hsz : (DataW.weightsEach Try.prog (Try.f8.params.toList ++ Rows.tfmHasSpec.plain.varTypes Try.prog) (ds ++ gs)).all (· ≤ reachBytes) = true := hsz0
  have hval : ∀ (j : Nat) t v, Try.f8.params[j]? = some t → args[j]? = some v → Value.okWide Try.prog W .any base t v := hval0
  have hW' := hW
  obtain ⟨p, q, hA0, hV, rfl, hfz, hnd⟩ := hW
  have hA : DataW.TrodAll enc Try.prog W 0 (fun _ => true) true Try.f8.params.toList args.toList ds p := hA0
  rw [Try.params8] at hA hval hsz
  obtain ⟨v0, vs0, d0, ds0, p0, q0, hargs, rfl, rfl, h0, r0⟩ := trodAll_cons hA
  obtain ⟨v1, vs1, d1, ds1, p1, q1, rfl, rfl, rfl, h1, r1⟩ := trodAll_cons r0
  obtain ⟨rfl, rfl, rfl⟩ := trodAll_nil r1
  obtain rfl : args = #[v0, v1] := by cases args; simp_all
  obtain ⟨rfl, rfl⟩ := trodVars_none hV
  have lt0 : ∀ x ∈ p0, x.block < W.heap.size := by obtain ⟨m, hm⟩ := h0; exact DataW.trod_lt m _ _ _ hm
  obtain ⟨cs0, rfl⟩ := Go.Proofs.Ytpijgpjoobffoaa.O.okWide_struct Try.underlying26 (hval 0 26 v0 rfl rfl)
  obtain ⟨a0, K0, g0⟩ := opens_at opens26 hsz (j := 0) (t := 26) rfl rfl h0
  obtain ⟨A0_3, c0_3, A0_4, c0_4, A0_5, c0_5, A0_6, c0_6, A0_7, c0_7, A0_8, c0_8, A0_9, c0_9, A0_10, c0_10, hcs0, hl0_3, hC0_3, hl0_4, hC0_4, hl0_5, hC0_5, hl0_6, hC0_6, hl0_7, hC0_7, hl0_8, hC0_8, hl0_9, hC0_9, hl0_10, hC0_10⟩ := k26_open K0
  obtain rfl := agg_cells hcs0
  obtain ⟨a1, rfl, rfl, rfl, g1⟩ := open_int Try.underlying3 (hval 1 3 v1 rfl rfl) h1
  clear hA0 hval0 hsz0 hsz
  obtain ⟨k, hk⟩ := Pure.TfmHas a0 a1 g0 g1
  refine (G.compositorlaw07_TfmHas.calls (k := k) (w := W) (hr0_3 := hC0_3) (hc0_3 := hl0_3) (hr0_4 := hC0_4) (hc0_4 := hl0_4) (hr0_5 := hC0_5) (hc0_5 := hl0_5) (hr0_6 := hC0_6) (hc0_6 := hl0_6) (hr0_7 := hC0_7) (hc0_7 := hl0_7) (hr0_8 := hC0_8) (hc0_8 := hl0_8) (hr0_9 := hC0_9) (hc0_9 := hl0_9) (hr0_10 := hC0_10) (hc0_10 := hl0_10) (h := hk)).mono fun e W' ⟨he, bel0⟩ => ?_
  subst he
  have bel : Below W.heap.size W W' := by first | exact bel0 | exact bel0.below
  exact ⟨_, rfl, _, _, _, [], _, [], hW', trodAll_mk1 (shut_bool Try.underlying4 _), (trodAll_cons_mk (Below.trod laidOut (by kernel_rfl) (of_decide_eq_true (by kernel_rfl)) h0 bel lt0) (trodAll_cons_mk (shut_int Try.underlying3 g1) trodAll_mk0)), rfl, bel.frame _, fun h => by cases h⟩
theorem over : Rows.tfmHasRow.holds Try.pinned (OpenSpec.ofChange Rows.tfmHasSpec) :=
  OpenClaim.holds_of_wide 8 Try.f8 rfl rfl rfl rfl rfl rfl rfl ⟨rfl, rfl, rfl, rfl, rfl⟩ rfl rfl rfl rfl rfl (by kernel_rfl) Try.func8 (by kernel_rfl)
    (of_decide_eq_true (by kernel_rfl)) (by unfold Func.isWrapper; first | (rw [if_pos (by decide +kernel)]; kernel_rfl) | (rw [if_neg (by decide +kernel)]; exact ⟨rfl, rfl⟩))
    (fun os started H enc _ => lifted os started H enc)
theorem proved : Rows.TfmHasSaid := over
#print axioms proved
end Go.Proofs.Ytpijgpjoobffoaa.tfmHas
namespace Go.Proofs.Ytpijgpjoobffoaa
/-- The row, under a short name, for the claim. -/
theorem tfmHas_holds : Rows.TfmHasSaid := tfmHas.proved
end Go.Proofs.Ytpijgpjoobffoaa
