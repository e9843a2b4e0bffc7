/- Words on functions with a number of rounds: from some number on, and reads of lists at an index. -/
import Derived.Test.YtpijgpjoobffoaaGx0
namespace Go.Proofs.Ytpijgpjoobffoaa.L
open Go.RowKit Go.Proofs.Ytpijgpjoobffoaa.G Go.Proofs.YtpijgpjoobffoaaW.PrintWords
theorem Ev.is {α : Type} {g : Nat → Option α} {r : α} (h : ∀ k, g k = some r) : Ev g r := ⟨0, fun k _ => h k⟩
theorem Ev.eq {α : Type} {g : Nat → Option α} {r s : α} (h : Ev g r) (e : r = s) : Ev g s := e ▸ h
theorem Ev.ite {α : Type} {c : Prop} [Decidable c] {f g : Nat → Option α} {r s : α} (h1 : c → Ev f r) (h2 : ¬ c → Ev g s) : Ev (fun k => if c then f k else g k) (if c then r else s) := by
  by_cases h : c
  · simpa only [if_pos h] using h1 h
  · simpa only [if_neg h] using h2 h
theorem wrap_in {n : Int} (h1 : -9223372036854775808 ≤ n) (h2 : n ≤ 9223372036854775807) : wrap64 n = n := by unfold wrap64; omega
theorem wrap_nat (i : Nat) (h : i < 9223372036854775807) : wrap64 ((i : Int) + 1) = ((i + 1 : Nat) : Int) := by unfold wrap64; omega
theorem rd_nat (l : List Int) (i : Nat) (h : i < l.length) : rd l (i : Int) = l[i] := by
  unfold rd
  rw [Int.toNat_natCast, List.getD_eq_getElem?_getD, List.getElem?_eq_getElem h]
  rfl
theorem getD_nat {α : Type} (l : List α) (z : α) (i : Nat) (h : i < l.length) : l.getD ((i : Int)).toNat z = l[i] := by
  rw [Int.toNat_natCast, List.getD_eq_getElem?_getD, List.getElem?_eq_getElem h]
  rfl
theorem drop_at {α : Type} (l : List α) (i : Nat) (h : i < l.length) : l.drop i = l[i] :: l.drop (i + 1) := List.drop_eq_getElem_cons h
theorem wf_i64 {n : Int} (h : (Lit.int .i64 n).wf = true) : -9223372036854775808 ≤ n ∧ n ≤ 9223372036854775807 := by
  have h1 : IntKind.i64.min = -9223372036854775808 := by decide
  have h2 : IntKind.i64.max = 9223372036854775807 := by decide
  simp only [Lit.wf, Bool.and_eq_true, decide_eq_true_eq, h1, h2] at h
  omega
end Go.Proofs.Ytpijgpjoobffoaa.L
