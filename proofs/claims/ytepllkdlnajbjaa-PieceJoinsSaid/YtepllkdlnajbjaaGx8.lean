/- Contracts of the functions of this seat: what each call computes, as a plain Lean function. Made by this session's own generator. -/
import Derived.Test.YtepllkdlnajbjaaGx0
import Derived.Test.YtepllkdlnajbjaaGx7
namespace Go.Proofs.Ytepllkdlnajbjaa.G
open Go.RowKit Go.Proofs.YtepllkdlnajbjaaMy Go.Proofs.YtepllkdlnajbjaaW.PrintWords Go.Proofs.YtepllkdlnajbjaaW.PrintLast Go.Proofs.YtepllkdlnajbjaaW.PrintMore
attribute [local go_sem] max2_int min2_int max_two min_two max_three min_three max_four min_four   -- for this text's walks alone
set_option linter.unusedVariables false
set_option linter.unusedSimpArgs false

/-! ### slices_Concat_int_int_cat: slices.Concat[[]int,int] of two -/
def slices_Concat_int_int_cat.f (l0 l1 : List Int) : Option (List Int) := if l0.length + l1.length < 17592186044416 then some (l0 ++ l1) else none
theorem slices_Concat_int_int_cat.calls {n0 n1 : Nat} (A0 : Option Addr) (c0 : Nat) (l0 : List Int) (A1 : Option Addr) (c1 : Nat) (l1 : List Int) (r : List Int) (w : World) (hr0 : Kd.C (Kd.int .i64) w A0 l0.length l0) (hc0 : l0.length ≤ c0) (hr1 : Kd.C (Kd.int .i64) w A1 l1.length l1) (hc1 : l1.length ≤ c1) (h : slices_Concat_int_int_cat.f l0 l1 = some r) (e0 : n0 = l0.length := by first | rfl | (rw [List.length_take]; exact (Nat.min_eq_left (Int.toNat_le.2 (of_decide_eq_true (by assumption)))).symm)) (e1 : n1 = l1.length := by first | rfl | (rw [List.length_take]; exact (Nat.min_eq_left (Int.toNat_le.2 (of_decide_eq_true (by assumption)))).symm)) : Calls Try.prog 24 #[.slice (some ⟨w.heap.size, 0, none⟩) 2 2] (w.alloc (.cells #[.slice A0 n0 c0, .slice A1 n1 c1] 36)) fun e w' => ∃ v0_ : Value, e = .returned v0_ ∧ Kd.R (Kd.int .i64) 3 w' w.heap.size (fun _ => True) v0_ r ∧ Below w.heap.size w w' := by
 subst e0 e1
 unfold slices_Concat_int_int_cat.f at h
 split at h
 case isFalse => cases h
 rename_i hl
 obtain rfl := Option.some.inj h
 clear h
 have hf : slices_Concat_int_int.f 9 [l0, l1] = some (l0 ++ l1) := by
  have e0 : wrap64 (0 + (l0.length : Int)) = l0.length := by unfold wrap64; omega
  have e1 : wrap64 ((l0.length : Int) + (l1.length : Int)) = ((l0.length + l1.length : Nat) : Int) := by unfold wrap64; omega
  have n0 : ¬ ((l0.length : Int) < 0) := by omega
  have n1 : ¬ (((l0.length + l1.length : Nat) : Int) < 0) := by omega
  have g0 : 0 ≤ ((l0.length + l1.length : Nat) : Int) ∧ ((l0.length + l1.length : Nat) : Int) ≤ 17592186044416 := by omega
  have w0 : wrap64 (0 + 1) = 1 := by unfold wrap64; omega
  have w1 : wrap64 (1 + 1) = 2 := by unfold wrap64; omega
  have hL_ : ((([l0, l1] : List (List Int)).length : Nat) : Int) = 2 := rfl
  have hN_ : ([] : List Int).length = 0 := rfl
  have z0 : l0.length < 17592186044416 := by omega
  have r0 : rd_L1 [l0, l1] 0 = l0 := rfl
  have r1 : rd_L1 [l0, l1] 1 = l1 := rfl
  simp only [slices_Concat_int_int.f, slices_Concat_int_int.l0, slices_Grow_int_int_nil.f, hL_, hN_, r0, r1, e0, e1, w0, w1, if_neg n0, if_neg n1, Nat.zero_add, Nat.reduceAdd, Int.reduceLT, Int.reduceLE, if_true, if_false, g0, and_self, Option.bind_some, slices_Concat_int_int.l1, if_pos z0, List.nil_append, if_pos hl, Int.lt_irrefl, Int.le_refl, Int.zero_le_ofNat]
 exact cat_calls 36 3 hr0 hc0 hr1 hc1 (fun hC => slices_Concat_int_int.calls 9 _ 2 [l0, l1] _ _ hC (Nat.le_refl _) hf)

end Go.Proofs.Ytepllkdlnajbjaa.G
