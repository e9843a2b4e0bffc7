/- Own words over the kit's: lemmas that the contracts of this seat use. -/
import Derived.WalkSpells
import Derived.WalkMore
import Derived.Deep.MidRow
import Derived.Lib.LazyBuf
import Derived.Shelf.Abstract
import Derived.Test.YtepllkdlnajbjaaProg
import Derived.Below
import Derived.Deep.Draws
import Derived.Deep.AppendLies
import Derived.Maps.AppendAt
import Derived.OwnWalk
import Derived.Laws.BytesArg
import Derived.Laws.MakeOwn
import Derived.Laws.OwnMore
import Derived.Deep.OwnRows
import Derived.Tactics
import Derived.Lib.ConvBytes
import Derived.Laws.Slices
import Derived.WalkKit
import Derived.KernelRfl
import Derived.RowKit3
import Derived.Deep.LoopGhost
import Derived.Deep.QuietTactic
import Derived.BigQuiet
import Derived.WideLaws
import Derived.Deep.DeepCutAuto
import Derived.Deep.CutBlock
import Derived.Deep.RegionHeld3
import Derived.Laws.Rows
import Derived.Lib.AppendStr
import Derived.ArgAppend
import Derived.Laws.IdiomCopy
import Derived.OrdersHeld
import Derived.Laws.BitsLemmas
import Derived.RowKit
import Derived.Test.YtepllkdlnajbjaaWWords
import Derived.Test.YtepllkdlnajbjaaWLast
import Derived.Test.YtepllkdlnajbjaaWTab
import Derived.Test.YtepllkdlnajbjaaWFour
import Derived.Test.YtepllkdlnajbjaaWQPut
import Derived.Test.YtepllkdlnajbjaaWApart
import Derived.Test.YtepllkdlnajbjaaWArr
import Derived.Test.YtepllkdlnajbjaaWZeros
import Derived.Test.YtepllkdlnajbjaaWFoot
import Derived.Test.YtepllkdlnajbjaaWKept
import Derived.Test.YtepllkdlnajbjaaWShare
import Derived.Test.YtepllkdlnajbjaaWN
import Derived.Test.YtepllkdlnajbjaaWFootNe
import Derived.Test.YtepllkdlnajbjaaWAt
import Derived.Test.YtepllkdlnajbjaaWEqStruct
import Derived.Test.YtepllkdlnajbjaaWRepsOne
import Derived.Test.YtepllkdlnajbjaaWInv
import Derived.Test.YtepllkdlnajbjaaWInvWords
import Derived.Test.YtepllkdlnajbjaaWGuard
import Derived.Test.YtepllkdlnajbjaaWNEv
import Derived.Test.YtepllkdlnajbjaaWMore
namespace Go.Proofs.YtepllkdlnajbjaaMy
end Go.Proofs.YtepllkdlnajbjaaMy
namespace Go.Proofs.YtepllkdlnajbjaaMy
open Go.RowKit Go.Proofs.YtepllkdlnajbjaaW.PrintWords
def PredK {α : Type} (P : Program) (g : Nat) (lb : Array Value) (mk : List Value → Value) (d : Kd α) (p : α → Bool) (w : World) (xs : List α) : Prop :=
  ∀ x ∈ xs, ∀ (W : World) (cs : List Value), Below w.heap.size w W → d.K W x cs → Calls P g (#[mk cs] ++ lb) W fun e w' => e = .returned (.bool (p x)) ∧ Below W.heap.size W w'
def one1 (cs : List Value) : Value := cs.headD undef
def agg1 (cs : List Value) : Value := .agg cs.toArray
def idxOf {α : Type} (p : α → Bool) (l : List α) : Int := match l.findIdx? p with | some i => (i : Int) | none => -1
theorem idxOf_hit {α : Type} {p : α → Bool} {l : List α} {k : Nat} (hk : k < l.length) (h0 : ∀ x ∈ l.take k, p x = false) (h1 : p l[k] = true) : idxOf p l = k := by
  unfold idxOf
  have : l.findIdx? p = some k := by
    rw [List.findIdx?_eq_some_iff_getElem]
    refine ⟨hk, h1, fun j hj => ?_⟩
    have := h0 l[j] (by
      rw [List.mem_take_iff_getElem]
      exact ⟨j, by omega, rfl⟩)
    simp [this]
  rw [this]
theorem idxOf_none {α : Type} {p : α → Bool} {l : List α} (h : ∀ x ∈ l, p x = false) : idxOf p l = -1 := by
  unfold idxOf
  rw [List.findIdx?_eq_none_iff.2 h]
theorem idxOf_any {α : Type} (p : α → Bool) (l : List α) : decide (0 ≤ idxOf p l) = l.any p := by
  unfold idxOf
  cases h : l.findIdx? p with
  | none =>
    rw [List.findIdx?_eq_none_iff] at h
    have : l.any p = false := by rw [List.any_eq_false]; intro x hx; simp [h x hx]
    rw [this]; rfl
  | some i =>
    have h' := List.findIdx?_eq_some_iff_getElem.1 h
    obtain ⟨hi, hp, _⟩ := h'
    have : l.any p = true := List.any_eq_true.2 ⟨l[i], List.getElem_mem hi, hp⟩
    rw [this]
    simp
theorem C_elem {α : Type} {d : Kd α} {w : World} {A : Option Addr} {xs : List α} (h : d.C w A xs.length xs) (i : Nat) (hi : i < xs.length) :
    ∃ ad c, A = some ad ∧ c.length = d.sz ∧ d.K w xs[i] c ∧ ∀ j u, c[j]? = some u → w.cell? (ad.add (i * d.sz + j)) = some u := by
  obtain ⟨ad, c, h1, h2, h3, h4⟩ := Kd.C_get h xs[i] (i : Int) (by omega) (by omega)
  rw [Int.toNat_natCast] at h3 h4
  rw [List.getD_eq_getElem?_getD, List.getElem?_eq_getElem hi, Option.getD_some] at h3
  exact ⟨ad, c, h1, h2, h3, h4⟩
end Go.Proofs.YtepllkdlnajbjaaMy
namespace Go.Proofs.YtepllkdlnajbjaaMy
open Go.RowKit Go.Proofs.YtepllkdlnajbjaaW.PrintWords
end Go.Proofs.YtepllkdlnajbjaaMy
namespace Go.Proofs.YtepllkdlnajbjaaMy
open Go.RowKit Go.Proofs.YtepllkdlnajbjaaW.PrintWords
end Go.Proofs.YtepllkdlnajbjaaMy
namespace Go.Proofs.YtepllkdlnajbjaaMy
open Go.RowKit Go.Proofs.YtepllkdlnajbjaaW.PrintWords
def inR (a b : Int) (l : List Int) : Bool := !(l.any fun n => decide (n < a) || decide (n > b))
theorem setCells_row (cs : List Value) : ∀ (o : Nat) (pre : List Value) (w : World) (old : List Value) (g : Nat) (t : TypeId), pre.length = o → old.length = cs.length → w.heap[g]? = some (.cells (pre ++ old).toArray t (0, 0)) →
    (w.setCells g o cs).heap[g]? = some (.cells (pre ++ cs).toArray t (0, 0)) ∧ (∀ k, k ≠ g → (w.setCells g o cs).heap[k]? = w.heap[k]?) := by
  induction cs with
  | nil =>
    intro o pre w old g t _ hl h
    have : old = [] := List.length_eq_zero_iff.1 hl
    subst this
    exact ⟨h, fun _ _ => rfl⟩
  | cons v cs ih =>
    intro o pre w old g t hp hl h
    match old, hl with
    | u :: old, hl =>
      have h1 := blk_put (cs' := ((pre ++ [v]) ++ old).toArray) h o v (by
        subst hp
        simp)
      obtain ⟨h2, h3⟩ := ih (o + 1) (pre ++ [v]) (w.setCell ⟨g, o, none⟩ v) old g t (by simp [hp]) (by simpa using hl) h1
      refine ⟨by rw [World.setCells]; simpa using h2, fun k hk => ?_⟩
      rw [World.setCells, h3 k hk]
      exact Below.heap_setCell w ⟨g, o, none⟩ v k hk
theorem odt {p : Prop} [Decidable p] (h : decide p = true := by first | (with_reducible assumption) | assumption) : p := of_decide_eq_true h
theorem bz_ {α : Type} {d : Kd α} {w : World} {A : Option Addr} {n : Nat} {xs : List α} (_ : d.C w A n xs) : Below w.heap.size w w := Below.refl _ _
end Go.Proofs.YtepllkdlnajbjaaMy
namespace Go.Proofs.YtepllkdlnajbjaaMy
open Go.RowKit Go.Proofs.YtepllkdlnajbjaaW.PrintWords
theorem C_two {α : Type} (d : Kd α) (e : Nat) {w : World} {A0 A1 : Option Addr} {c0 c1 : Nat} {l0 l1 : List α} (hr0 : d.C w A0 l0.length l0) (hc0 : l0.length ≤ c0) (hr1 : d.C w A1 l1.length l1) (hc1 : l1.length ≤ c1) :
    Kd.C (Kd.slice e d) (w.alloc (.cells #[.slice A0 l0.length c0, .slice A1 l1.length c1] e)) (some ⟨w.heap.size, 0, none⟩) 2 [l0, l1] := by
  have hb : Below w.heap.size w (w.alloc (.cells #[.slice A0 l0.length c0, .slice A1 l1.length c1] e)) := (Below.refl _ w).alloc (Nat.le_refl _) _
  have hr : Reps ((Kd.slice e d).K (w.alloc (.cells #[.slice A0 l0.length c0, .slice A1 l1.length c1] e))) 1 [l0, l1] [.slice A0 l0.length c0, .slice A1 l1.length c1] :=
    Reps.one ⟨A0, c0, rfl, hc0, Kd.C_below hr0 hb⟩ (Reps.one ⟨A1, c1, rfl, hc1, Kd.C_below hr1 hb⟩ (Reps.none _ _))
  have h := OwnRow.lit (e := e) w 0 hr (Nat.zero_le _) (by simp)
  obtain ⟨A, c, he, _, hC⟩ := OwnRow.reads h
  injection he with he1 _ _
  subst he1
  exact hC
theorem cat_calls {P : Program} {f : FuncId} {α : Type} {d : Kd α} (e e2 : Nat) {w : World} {A0 A1 : Option Addr} {c0 c1 : Nat} {l0 l1 r : List α} (hr0 : d.C w A0 l0.length l0) (hc0 : l0.length ≤ c0) (hr1 : d.C w A1 l1.length l1) (hc1 : l1.length ≤ c1)
    (h : Kd.C (Kd.slice e d) (w.alloc (.cells #[.slice A0 l0.length c0, .slice A1 l1.length c1] e)) (some ⟨w.heap.size, 0, none⟩) 2 [l0, l1] → Calls P f #[.slice (some ⟨w.heap.size, 0, none⟩) 2 2] (w.alloc (.cells #[.slice A0 l0.length c0, .slice A1 l1.length c1] e)) fun en w' => ∃ v0_ : Value, en = .returned v0_ ∧ Kd.R d e2 w' (w.alloc (.cells #[.slice A0 l0.length c0, .slice A1 l1.length c1] e)).heap.size (fun _ => True) v0_ r ∧ Below (w.alloc (.cells #[.slice A0 l0.length c0, .slice A1 l1.length c1] e)).heap.size (w.alloc (.cells #[.slice A0 l0.length c0, .slice A1 l1.length c1] e)) w') :
    Calls P f #[.slice (some ⟨w.heap.size, 0, none⟩) 2 2] (w.alloc (.cells #[.slice A0 l0.length c0, .slice A1 l1.length c1] e)) fun en w' => ∃ v0_ : Value, en = .returned v0_ ∧ Kd.R d e2 w' w.heap.size (fun _ => True) v0_ r ∧ Below w.heap.size w w' := by
  have hb : Below w.heap.size w (w.alloc (.cells #[.slice A0 l0.length c0, .slice A1 l1.length c1] e)) := (Below.refl _ w).alloc (Nat.le_refl _) _
  refine (h (C_two d e hr0 hc0 hr1 hc1)).mono ?_
  rintro en w' ⟨v, rfl, hR, hB⟩
  exact ⟨v, rfl, Kd.R_lower hR hb.size, hb.trans (hB.mono hb.size)⟩
end Go.Proofs.YtepllkdlnajbjaaMy
