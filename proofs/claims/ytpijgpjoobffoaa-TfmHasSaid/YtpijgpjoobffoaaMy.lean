/- Own words over the kit's: lemmas that the contracts of this seat use. -/
import Derived.WalkSpells
import Derived.WalkMore
import Derived.Deep.MidRow
import Derived.Lib.LazyBuf
import Derived.Shelf.Abstract
import Derived.Lib.SlBytesConst
import Derived.RangeFuncRecord
import Derived.Great.BuildSlice
import Derived.Defers
import Derived.Recover
import Derived.Test.YtpijgpjoobffoaaProg
import Derived.Below
import Derived.Deep.Draws
import Derived.Deep.AppendLies
import Derived.Maps.AppendAt
import Derived.OwnWalk
import Derived.Laws.BytesArg
import Derived.Laws.MakeOwn
import Derived.Laws.OwnMore
import Derived.Deep.OwnRows
import Derived.Tactics
import Derived.Lib.ConvBytes
import Derived.Laws.Slices
import Derived.WalkKit
import Derived.KernelRfl
import Derived.RowKit3
import Derived.Deep.LoopGhost
import Derived.Deep.QuietTactic
import Derived.BigQuiet
import Derived.WideLaws
import Derived.Deep.DeepCutAuto
import Derived.Deep.CutBlock
import Derived.Deep.RegionHeld3
import Derived.Laws.Rows
import Derived.Lib.AppendStr
import Derived.ArgAppend
import Derived.Laws.IdiomCopy
import Derived.OrdersHeld
import Derived.Laws.BitsLemmas
import Derived.RowKit
import Derived.Test.YtpijgpjoobffoaaWWords
import Derived.Test.YtpijgpjoobffoaaWLast
import Derived.Test.YtpijgpjoobffoaaWTab
import Derived.Test.YtpijgpjoobffoaaWFour
import Derived.Test.YtpijgpjoobffoaaWQPut
import Derived.Test.YtpijgpjoobffoaaWApart
import Derived.Test.YtpijgpjoobffoaaWArr
import Derived.Test.YtpijgpjoobffoaaWZeros
import Derived.Test.YtpijgpjoobffoaaWFoot
import Derived.Test.YtpijgpjoobffoaaWKept
import Derived.Test.YtpijgpjoobffoaaWShare
import Derived.Test.YtpijgpjoobffoaaWN
import Derived.Test.YtpijgpjoobffoaaWFootNe
import Derived.Test.YtpijgpjoobffoaaWAt
import Derived.Test.YtpijgpjoobffoaaWEqStruct
import Derived.Test.YtpijgpjoobffoaaWRepsOne
import Derived.Test.YtpijgpjoobffoaaWInv
import Derived.Test.YtpijgpjoobffoaaWInvWords
import Derived.Test.YtpijgpjoobffoaaWGuard
import Derived.Test.YtpijgpjoobffoaaWNEv
import Derived.Test.YtpijgpjoobffoaaWMore
namespace Go.Proofs.YtpijgpjoobffoaaMy
end Go.Proofs.YtpijgpjoobffoaaMy
namespace Go.Proofs.YtpijgpjoobffoaaMy
open Go.RowKit Go.Proofs.YtpijgpjoobffoaaW.PrintWords
def PredK {α : Type} (P : Program) (g : Nat) (lb : Array Value) (mk : List Value → Value) (d : Kd α) (p : α → Bool) (w : World) (xs : List α) : Prop :=
  ∀ x ∈ xs, ∀ (W : World) (cs : List Value), Below w.heap.size w W → d.K W x cs → Calls P g (#[mk cs] ++ lb) W fun e w' => e = .returned (.bool (p x)) ∧ Below W.heap.size W w'
def one1 (cs : List Value) : Value := cs.headD undef
def agg1 (cs : List Value) : Value := .agg cs.toArray
def idxOf {α : Type} (p : α → Bool) (l : List α) : Int := match l.findIdx? p with | some i => (i : Int) | none => -1
theorem idxOf_hit {α : Type} {p : α → Bool} {l : List α} {k : Nat} (hk : k < l.length) (h0 : ∀ x ∈ l.take k, p x = false) (h1 : p l[k] = true) : idxOf p l = k := by
  unfold idxOf
  have : l.findIdx? p = some k := by
    rw [List.findIdx?_eq_some_iff_getElem]
    refine ⟨hk, h1, fun j hj => ?_⟩
    have := h0 l[j] (by
      rw [List.mem_take_iff_getElem]
      exact ⟨j, by omega, rfl⟩)
    simp [this]
  rw [this]
theorem idxOf_none {α : Type} {p : α → Bool} {l : List α} (h : ∀ x ∈ l, p x = false) : idxOf p l = -1 := by
  unfold idxOf
  rw [List.findIdx?_eq_none_iff.2 h]
theorem idxOf_any {α : Type} (p : α → Bool) (l : List α) : decide (0 ≤ idxOf p l) = l.any p := by
  unfold idxOf
  cases h : l.findIdx? p with
  | none =>
    rw [List.findIdx?_eq_none_iff] at h
    have : l.any p = false := by rw [List.any_eq_false]; intro x hx; simp [h x hx]
    rw [this]; rfl
  | some i =>
    have h' := List.findIdx?_eq_some_iff_getElem.1 h
    obtain ⟨hi, hp, _⟩ := h'
    have : l.any p = true := List.any_eq_true.2 ⟨l[i], List.getElem_mem hi, hp⟩
    rw [this]
    simp
theorem C_elem {α : Type} {d : Kd α} {w : World} {A : Option Addr} {xs : List α} (h : d.C w A xs.length xs) (i : Nat) (hi : i < xs.length) :
    ∃ ad c, A = some ad ∧ c.length = d.sz ∧ d.K w xs[i] c ∧ ∀ j u, c[j]? = some u → w.cell? (ad.add (i * d.sz + j)) = some u := by
  obtain ⟨ad, c, h1, h2, h3, h4⟩ := Kd.C_get h xs[i] (i : Int) (by omega) (by omega)
  rw [Int.toNat_natCast] at h3 h4
  rw [List.getD_eq_getElem?_getD, List.getElem?_eq_getElem hi, Option.getD_some] at h3
  exact ⟨ad, c, h1, h2, h3, h4⟩
end Go.Proofs.YtpijgpjoobffoaaMy
namespace Go.Proofs.YtpijgpjoobffoaaMy
open Go.RowKit Go.Proofs.YtpijgpjoobffoaaW.PrintWords
theorem cell_add1 {w : World} {ad : Addr} {m j : Nat} {u : Value} (hj : 0 < j) (h : w.cell? (ad.add (m + j)) = some u) : w.cell? ⟨(ad.add m).block, (ad.add m).off + j, none⟩ = some u := by
  have e : (⟨(ad.add m).block, (ad.add m).off + j, none⟩ : Addr) = ad.add (m + j) := by
    unfold Addr.add
    rw [if_neg (show ¬ (m + j = 0) by omega)]
    split
    · rename_i h0
      subst h0
      simp
    · simp [Nat.add_assoc]
  rw [e]
  exact h
theorem list4 {l : List Value} (h : l.length = 4) : ∃ a b c d, l = [a, b, c, d] := by
  match l, h with
  | [a, b, c, d], _ => exact ⟨a, b, c, d, rfl⟩
theorem list6 {l : List Value} (h : l.length = 6) : ∃ a b c d e f, l = [a, b, c, d, e, f] := by
  match l, h with
  | [a, b, c, d, e, f], _ => exact ⟨a, b, c, d, e, f, rfl⟩
end Go.Proofs.YtpijgpjoobffoaaMy
namespace Go.Proofs.YtpijgpjoobffoaaMy
open Go.RowKit Go.Proofs.YtpijgpjoobffoaaW.PrintWords
theorem leo_some {α : Type} {a b : Option α} (h : LeO a b) (hs : a.isSome = true) : a = b := by
  obtain ⟨x, hx⟩ := Option.isSome_iff_exists.1 hs
  rw [hx, h x hx]
theorem any_congr' {α : Type} {f g : α → Bool} {l : List α} (h : ∀ x ∈ l, f x = g x) : l.any f = l.any g := by
  induction l with
  | nil => rfl
  | cons x l ih => simp only [List.any_cons, h x (by simp), ih (fun y hy => h y (by simp [hy]))]
theorem any_rounds {α : Type} (F G : α → Option Bool) (h : ∀ x, LeO (F x) (G x)) (l : List α) (r : Bool) (hr : (if (l.all fun x => (F x).isSome) = true then some (l.any fun x => F x == some true) else none) = some r) :
    (if (l.all fun x => (G x).isSome) = true then some (l.any fun x => G x == some true) else none) = some r := by
  split at hr
  · rename_i ha
    have e : ∀ x ∈ l, F x = G x := fun x hx => leo_some (h x) (List.all_eq_true.1 ha x hx)
    rw [if_pos (List.all_eq_true.2 fun x hx => by rw [← e x hx]; exact List.all_eq_true.1 ha x hx), ← hr]
    congr 1
    exact any_congr' fun x hx => by rw [e x hx]
  · cases hr
end Go.Proofs.YtpijgpjoobffoaaMy
namespace Go.Proofs.YtpijgpjoobffoaaMy
open Go.RowKit Go.Proofs.YtpijgpjoobffoaaW.PrintWords
def inR (a b : Int) (l : List Int) : Bool := !(l.any fun n => decide (n < a) || decide (n > b))
theorem yields_row {P : Program} {o : Oper} {ρ : Operand → Value} {w : World} (ty : TypeId) (x : Operand) (ho : o.op = .load ty x)
    (g : Nat) (hx : ρ x = .pointer (some ⟨g, 0, none⟩)) (t : TypeId) (cs : Array Value) (fr : Nat × Nat) (d : TypeDesc) (hg : w.heap[g]? = some (.cells cs t fr))
    (hu : P.underlying ty = some d) (hd : (match d with | .struct _ | .array _ _ => true | _ => false) = true) (hi : (P.info? ty).map (·.size) = some cs.size) :
    (execOp ρ o).run P w = .ok (.value (.agg cs)) w := by
  unfold execOp
  simp only [ho, hx, Instr.loadAt, Instr.sureAddr, Sem.run_bind, Sem.run_pure, Result.andThen_ok, run_loadVar_row w g t ty cs fr d hg hu hd hi]
theorem takeP_ {P : Program} {ops : Array Oper} {Q : Exit → Act → World → Prop} {md : Region.Mode} {S : World → Prop} {ds : List Nat} {i : Nat} {N : Option Tmp} {oi : Oper} {v : Value} {fuel : Nat} {l : Array Bool} {a : Act} {w : World} (l' : Array Bool) (hi : ops[i]? = some oi) (hN : oi.dst = N) (hc : YtpijgpjoobffoaaW.PrintLast.takeB md ops ds l l' i = true)
    (hQ : ∀ c a v' w, Q (.panic c) (Act.put a oi.dst v') w → Q (.panic c) a w) (hy : YieldsIf P ops S oi v a) (hS : S w) {a' : Act} (ha : a.put N v = a')
    (h : YtpijgpjoobffoaaW.PrintLast.wpAnyLast P md ops Q S ds fuel l' a' w) : YtpijgpjoobffoaaW.PrintLast.wpAnyLast P md ops Q S ds (fuel + 1) l a w :=
  YtpijgpjoobffoaaW.PrintLast.take_ l' hi hN hc (fun c a w => hQ c a v w) hy hS ha h
theorem setCells_row (cs : List Value) : ∀ (o : Nat) (pre : List Value) (w : World) (old : List Value) (g : Nat) (t : TypeId), pre.length = o → old.length = cs.length → w.heap[g]? = some (.cells (pre ++ old).toArray t (0, 0)) →
    (w.setCells g o cs).heap[g]? = some (.cells (pre ++ cs).toArray t (0, 0)) ∧ (∀ k, k ≠ g → (w.setCells g o cs).heap[k]? = w.heap[k]?) := by
  induction cs with
  | nil =>
    intro o pre w old g t _ hl h
    have : old = [] := List.length_eq_zero_iff.1 hl
    subst this
    exact ⟨h, fun _ _ => rfl⟩
  | cons v cs ih =>
    intro o pre w old g t hp hl h
    match old, hl with
    | u :: old, hl =>
      have h1 := blk_put (cs' := ((pre ++ [v]) ++ old).toArray) h o v (by
        subst hp
        simp)
      obtain ⟨h2, h3⟩ := ih (o + 1) (pre ++ [v]) (w.setCell ⟨g, o, none⟩ v) old g t (by simp [hp]) (by simpa using hl) h1
      refine ⟨by rw [World.setCells]; simpa using h2, fun k hk => ?_⟩
      rw [World.setCells, h3 k hk]
      exact Below.heap_setCell w ⟨g, o, none⟩ v k hk
theorem below_setCells (cs : List Value) : ∀ (o : Nat) (w : World) (g b : Nat), b ≤ g → Below b w (w.setCells g o cs) := by
  induction cs with
  | nil => exact fun _ w _ b _ => Below.refl b w
  | cons v cs ih =>
    intro o w g b hb
    rw [World.setCells]
    exact ((Below.refl b w).setCell (p := ⟨g, o, none⟩) hb v).trans (ih (o + 1) _ g b hb)
theorem store_row_event {P : Program} {ops : Array Oper} {rest : List Oper} {o : Oper} {a : Act} {Q : Exit → Act → World → Prop} {W : World} {base : Nat} (hgd : o.guard = none) (hN : o.dst = none) (T : TypeId) (p x : Operand) (ho : o.op = .store T p x)
    {g : Nat} {t : TypeId} {cs cs' : Array Value} (hp : a.eval p = .pointer (some ⟨g, 0, none⟩)) (hx : a.eval x = .agg cs') (hg : W.heap[g]? = some (.cells cs t (0, 0))) (hi : (P.info? T).map (·.size) = some cs'.size) (hs : cs'.size = cs.size) (h1 : cs'.toList.all (·.oneCell') = true) (hb : base ≤ g)
    (h : ∀ w1, w1.heap[g]? = some (.cells cs' t (0, 0)) → (∀ k, k ≠ g → w1.heap[k]? = W.heap[k]?) → Below base W w1 → wpList P ops Q rest a w1) : wpList P ops Q (o :: rest) a W := by
  refine wpList_store_mid hgd T p x ho g 0 cs' hp hx ?_ hi (by simpa using h1) ?_
  · intro j hj
    rw [Nat.zero_add]
    refine ⟨?_, blk_frozen hg j⟩
    rw [blk_cell hg j, Array.getElem?_eq_getElem (by omega)]
    rfl
  · rw [hN]
    obtain ⟨h2, h3⟩ := setCells_row cs'.toList 0 [] W cs.toList g t rfl (by simpa using hs.symm) (by simpa using hg)
    exact h _ (by simpa using h2) h3 (below_setCells _ _ _ _ _ hb)
theorem odt {p : Prop} [Decidable p] (h : decide p = true := by first | (with_reducible assumption) | assumption) : p := of_decide_eq_true h
theorem blk_else {w w1 : World} {g g' : Nat} {o : Obj} (h : w.heap[g]? = some o) (hne : g ≠ g') (hk : ∀ k, k ≠ g' → w1.heap[k]? = w.heap[k]?) : w1.heap[g]? = some o := (hk g hne).trans h
theorem gate_load {P : Program} {ops : Array Oper} {rest : List Oper} {o : Oper} {a : Act} {Q : Exit → Act → World → Prop} {W : World} {T : TypeId} {x : Operand} (_ho : o.op = .load T x) (h : wpList P ops Q (o :: rest) a W) : wpList P ops Q (o :: rest) a W := h
theorem load_row_event {P : Program} {ops : Array Oper} {rest : List Oper} {o : Oper} {a : Act} {w : World} {Q : Exit → Act → World → Prop} (hw : Region.wanted o (yielded ops a.tmps) = true) (ty : TypeId) (x : Operand) (ho : o.op = .load ty x)
    (g : Nat) (hx : a.eval x = .pointer (some ⟨g, 0, none⟩)) (t : TypeId) (cs : Array Value) (fr : Nat × Nat) (d : TypeDesc) (hg : w.heap[g]? = some (.cells cs t fr))
    (hu : P.underlying ty = some d) (hd : (match d with | .struct _ | .array _ _ => true | _ => false) = true) (hi : (P.info? ty).map (·.size) = some cs.size)
    (h : wpList P ops Q rest (a.put o.dst (.agg cs)) w) : wpList P ops Q (o :: rest) a w := by
  rw [wpList, if_pos hw]
  exact .inl (wp_load_row ty x ho g hx t cs fr d hg hu hd hi h)
end Go.Proofs.YtpijgpjoobffoaaMy
namespace Go.Proofs.YtpijgpjoobffoaaMy
open Go.RowKit Go.Proofs.YtpijgpjoobffoaaW.PrintWords
end Go.Proofs.YtpijgpjoobffoaaMy
namespace Go.Proofs.YtpijgpjoobffoaaMy
open Go.RowKit Go.Proofs.YtpijgpjoobffoaaW.PrintWords
theorem row_else {α : Type} {d : Kd α} {e t g base : Nat} {ok : Nat → Prop} {v : Value} {xs : List α} {W W2 : World} {cs : Array Value} (h : d.R e W base ok v xs) (hg : W.heap[g]? = some (.cells cs t (0, 0))) (ht : ∀ q ∈ e :: d.E, q ≠ t) (hk : ∀ j, j ≠ g → W2.heap[j]? = W.heap[j]?) : d.R e W2 base ok v xs :=
  Kd.R_mono (Kd.R_step (Kd.R_types h hg ht) (fun k ho _ => hk k ho.2)) (fun _ ho => ho.1)
theorem flat_run {P : Program} {o : Oper} {a : Act} {W : World} {t : TypeId} {len : Nat} {parts : Array (Nat × Operand)} (e : TypeId) (k : IntKind) (zs : List Int) (ho : o.op = .buildSlice t len parts)
    (hu : P.underlying t = some (.slice e)) (hsz : (P.info? e).map (·.size) = some 1) (hz : ((P.info? e).bind (·.zero)).isSome = true)
    (hlen : len = zs.length) (hpos : 0 < len) (hsmall : len ≤ 2 ^ 24) (hparts : parts.toList = (zs.zipIdx 0).map fun x => (x.2, Operand.const (Value.int k x.1))) :
    (execOp a.eval o).run P W = .ok (.value (.slice (some ⟨W.heap.size, 0, none⟩) zs.length zs.length)) (W.alloc (.cells (nums k zs).toArray e)) := by
  cases hie : P.info? e with
  | none => simp [hie] at hsz
  | some ie =>
    simp only [hie, Option.map_some, Option.some.injEq, Option.bind_some] at hsz hz
    obtain ⟨z, hzz⟩ := Option.isSome_iff_exists.1 hz
    unfold execOp
    simp only [ho, Sem.run_bind, run_buildSlice W t e len _ _ ie z hu hie hzz (by rw [hsz]; omega) (by rw [hsz]; omega) (by rw [parts_eval a parts k zs hparts, hsz]; exact Great.fill_flat _ _ (fun v hv => by obtain ⟨n, _, rfl⟩ := List.mem_map.1 hv; rfl) (by simp [hlen])), Result.andThen_ok]
    subst hlen
    rfl
end Go.Proofs.YtpijgpjoobffoaaMy
namespace Go.Proofs.YtpijgpjoobffoaaMy
open Go.RowKit Go.Proofs.YtpijgpjoobffoaaW.PrintWords
section
variable {P : Program} {ops : Array Oper} {Q : Exit → Act → World → Prop}
end
end Go.Proofs.YtpijgpjoobffoaaMy
