/- Own words over the kit's: lemmas that the contracts of this seat use. -/
import Derived.WalkSpells
import Derived.Deep.MidRow
import Derived.Lib.LazyBuf
import Derived.Shelf.Abstract
import Derived.RangeFuncNested
import Derived.RangeFuncLeaves
import Derived.OwnWalkIn
import Derived.TacticsInMore
import Derived.LoopNIn
import Derived.LoopIn
import Derived.Great.BuildSlice
import Derived.ScopeJumps
import Derived.WalkMore
import Derived.Test.YtogkaifcelooaaaProg
import Derived.Below
import Derived.Deep.Draws
import Derived.Deep.AppendLies
import Derived.Maps.AppendAt
import Derived.OwnWalk
import Derived.Laws.BytesArg
import Derived.Laws.MakeOwn
import Derived.Laws.OwnMore
import Derived.Deep.OwnRows
import Derived.Tactics
import Derived.Lib.ConvBytes
import Derived.Laws.Slices
import Derived.WalkKit
import Derived.KernelRfl
import Derived.RowKit3
import Derived.Deep.LoopGhost
import Derived.Deep.QuietTactic
import Derived.BigQuiet
import Derived.WideLaws
import Derived.Deep.DeepCutAuto
import Derived.Deep.CutBlock
import Derived.Deep.RegionHeld3
import Derived.Laws.Rows
import Derived.Lib.AppendStr
import Derived.ArgAppend
import Derived.Laws.IdiomCopy
import Derived.OrdersHeld
import Derived.Laws.BitsLemmas
import Derived.RowKit
import Derived.Test.YtogkaifcelooaaaWWords
import Derived.Test.YtogkaifcelooaaaWLast
import Derived.Test.YtogkaifcelooaaaWTab
import Derived.Test.YtogkaifcelooaaaWFour
import Derived.Test.YtogkaifcelooaaaWQPut
import Derived.Test.YtogkaifcelooaaaWApart
import Derived.Test.YtogkaifcelooaaaWArr
import Derived.Test.YtogkaifcelooaaaWZeros
import Derived.Test.YtogkaifcelooaaaWFoot
import Derived.Test.YtogkaifcelooaaaWKept
import Derived.Test.YtogkaifcelooaaaWShare
import Derived.Test.YtogkaifcelooaaaWN
import Derived.Test.YtogkaifcelooaaaWFootNe
import Derived.Test.YtogkaifcelooaaaWAt
import Derived.Test.YtogkaifcelooaaaWEqStruct
import Derived.Test.YtogkaifcelooaaaWRepsOne
import Derived.Test.YtogkaifcelooaaaWInv
import Derived.Test.YtogkaifcelooaaaWInvWords
import Derived.Test.YtogkaifcelooaaaWGuard
import Derived.Test.YtogkaifcelooaaaWNEv
import Derived.Test.YtogkaifcelooaaaWMore
namespace Go.Proofs.YtogkaifcelooaaaMy
end Go.Proofs.YtogkaifcelooaaaMy
namespace Go.Proofs.YtogkaifcelooaaaMy
open Go.RowKit Go.Proofs.YtogkaifcelooaaaW.PrintWords
def PredK {α : Type} (P : Program) (g : Nat) (lb : Array Value) (mk : List Value → Value) (d : Kd α) (p : α → Bool) (w : World) (xs : List α) : Prop :=
  ∀ x ∈ xs, ∀ (W : World) (cs : List Value), Below w.heap.size w W → d.K W x cs → Calls P g (#[mk cs] ++ lb) W fun e w' => e = .returned (.bool (p x)) ∧ Below W.heap.size W w'
def one1 (cs : List Value) : Value := cs.headD undef
def agg1 (cs : List Value) : Value := .agg cs.toArray
def idxOf {α : Type} (p : α → Bool) (l : List α) : Int := match l.findIdx? p with | some i => (i : Int) | none => -1
theorem idxOf_hit {α : Type} {p : α → Bool} {l : List α} {k : Nat} (hk : k < l.length) (h0 : ∀ x ∈ l.take k, p x = false) (h1 : p l[k] = true) : idxOf p l = k := by
  unfold idxOf
  have : l.findIdx? p = some k := by
    rw [List.findIdx?_eq_some_iff_getElem]
    refine ⟨hk, h1, fun j hj => ?_⟩
    have := h0 l[j] (by
      rw [List.mem_take_iff_getElem]
      exact ⟨j, by omega, rfl⟩)
    simp [this]
  rw [this]
theorem idxOf_none {α : Type} {p : α → Bool} {l : List α} (h : ∀ x ∈ l, p x = false) : idxOf p l = -1 := by
  unfold idxOf
  rw [List.findIdx?_eq_none_iff.2 h]
theorem idxOf_any {α : Type} (p : α → Bool) (l : List α) : decide (0 ≤ idxOf p l) = l.any p := by
  unfold idxOf
  cases h : l.findIdx? p with
  | none =>
    rw [List.findIdx?_eq_none_iff] at h
    have : l.any p = false := by rw [List.any_eq_false]; intro x hx; simp [h x hx]
    rw [this]; rfl
  | some i =>
    have h' := List.findIdx?_eq_some_iff_getElem.1 h
    obtain ⟨hi, hp, _⟩ := h'
    have : l.any p = true := List.any_eq_true.2 ⟨l[i], List.getElem_mem hi, hp⟩
    rw [this]
    simp
theorem C_elem {α : Type} {d : Kd α} {w : World} {A : Option Addr} {xs : List α} (h : d.C w A xs.length xs) (i : Nat) (hi : i < xs.length) :
    ∃ ad c, A = some ad ∧ c.length = d.sz ∧ d.K w xs[i] c ∧ ∀ j u, c[j]? = some u → w.cell? (ad.add (i * d.sz + j)) = some u := by
  obtain ⟨ad, c, h1, h2, h3, h4⟩ := Kd.C_get h xs[i] (i : Int) (by omega) (by omega)
  rw [Int.toNat_natCast] at h3 h4
  rw [List.getD_eq_getElem?_getD, List.getElem?_eq_getElem hi, Option.getD_some] at h3
  exact ⟨ad, c, h1, h2, h3, h4⟩
end Go.Proofs.YtogkaifcelooaaaMy
namespace Go.Proofs.YtogkaifcelooaaaMy
open Go.RowKit Go.Proofs.YtogkaifcelooaaaW.PrintWords
theorem cell_add1 {w : World} {ad : Addr} {m j : Nat} {u : Value} (hj : 0 < j) (h : w.cell? (ad.add (m + j)) = some u) : w.cell? ⟨(ad.add m).block, (ad.add m).off + j, none⟩ = some u := by
  have e : (⟨(ad.add m).block, (ad.add m).off + j, none⟩ : Addr) = ad.add (m + j) := by
    unfold Addr.add
    rw [if_neg (show ¬ (m + j = 0) by omega)]
    split
    · rename_i h0
      subst h0
      simp
    · simp [Nat.add_assoc]
  rw [e]
  exact h
theorem list2 {l : List Value} (h : l.length = 2) : ∃ a b, l = [a, b] := by
  match l, h with
  | [a, b], _ => exact ⟨a, b, rfl⟩
end Go.Proofs.YtogkaifcelooaaaMy
namespace Go.Proofs.YtogkaifcelooaaaMy
open Go.RowKit Go.Proofs.YtogkaifcelooaaaW.PrintWords
end Go.Proofs.YtogkaifcelooaaaMy
namespace Go.Proofs.YtogkaifcelooaaaMy
open Go.RowKit Go.Proofs.YtogkaifcelooaaaW.PrintWords
theorem C_lit (W : World) (e : TypeId) (xs : List Int) (cs : List Value) (hcs : cs = nums .i64 xs) (hm : xs.length ≤ 9223372036854775807) :
    Kd.C (Kd.int .i64) (W.alloc (.cells cs.toArray e)) (some ⟨W.heap.size, 0, none⟩) xs.length xs := by
  subst hcs
  have h := own_lit W W.heap.size e .i64 xs (Nat.le_refl _) hm
  have h2 : Kd.R (Kd.int .i64) e (W.alloc (.cells (nums .i64 xs).toArray e)) W.heap.size (fun _ => True) (.slice (some ⟨W.heap.size, 0, none⟩) xs.length xs.length) xs := Kd.R_of_own h (fun _ _ => trivial)
  obtain ⟨A, c, he, _, hC⟩ := Kd.R_reads h2
  injection he with he1 he2 he3
  subst he1
  exact hC
theorem le_of_size {w W : World} {o : Obj} (h : Below (w.heap.size + 1) (w.alloc o) W) : w.heap.size + 1 ≤ W.heap.size := by have := h.size; simpa using this
def inR (a b : Int) (l : List Int) : Bool := !(l.any fun n => decide (n < a) || decide (n > b))
theorem yields_row {P : Program} {o : Oper} {ρ : Operand → Value} {w : World} (ty : TypeId) (x : Operand) (ho : o.op = .load ty x)
    (g : Nat) (hx : ρ x = .pointer (some ⟨g, 0, none⟩)) (t : TypeId) (cs : Array Value) (fr : Nat × Nat) (d : TypeDesc) (hg : w.heap[g]? = some (.cells cs t fr))
    (hu : P.underlying ty = some d) (hd : (match d with | .struct _ | .array _ _ => true | _ => false) = true) (hi : (P.info? ty).map (·.size) = some cs.size) :
    (execOp ρ o).run P w = .ok (.value (.agg cs)) w := by
  unfold execOp
  simp only [ho, hx, Instr.loadAt, Instr.sureAddr, Sem.run_bind, Sem.run_pure, Result.andThen_ok, run_loadVar_row w g t ty cs fr d hg hu hd hi]
theorem takeP_ {P : Program} {ops : Array Oper} {Q : Exit → Act → World → Prop} {md : Region.Mode} {S : World → Prop} {ds : List Nat} {i : Nat} {N : Option Tmp} {oi : Oper} {v : Value} {fuel : Nat} {l : Array Bool} {a : Act} {w : World} (l' : Array Bool) (hi : ops[i]? = some oi) (hN : oi.dst = N) (hc : YtogkaifcelooaaaW.PrintLast.takeB md ops ds l l' i = true)
    (hQ : ∀ c a v' w, Q (.panic c) (Act.put a oi.dst v') w → Q (.panic c) a w) (hy : YieldsIf P ops S oi v a) (hS : S w) {a' : Act} (ha : a.put N v = a')
    (h : YtogkaifcelooaaaW.PrintLast.wpAnyLast P md ops Q S ds fuel l' a' w) : YtogkaifcelooaaaW.PrintLast.wpAnyLast P md ops Q S ds (fuel + 1) l a w :=
  YtogkaifcelooaaaW.PrintLast.take_ l' hi hN hc (fun c a w => hQ c a v w) hy hS ha h
theorem setCells_row (cs : List Value) : ∀ (o : Nat) (pre : List Value) (w : World) (old : List Value) (g : Nat) (t : TypeId), pre.length = o → old.length = cs.length → w.heap[g]? = some (.cells (pre ++ old).toArray t (0, 0)) →
    (w.setCells g o cs).heap[g]? = some (.cells (pre ++ cs).toArray t (0, 0)) ∧ (∀ k, k ≠ g → (w.setCells g o cs).heap[k]? = w.heap[k]?) := by
  induction cs with
  | nil =>
    intro o pre w old g t _ hl h
    have : old = [] := List.length_eq_zero_iff.1 hl
    subst this
    exact ⟨h, fun _ _ => rfl⟩
  | cons v cs ih =>
    intro o pre w old g t hp hl h
    match old, hl with
    | u :: old, hl =>
      have h1 := blk_put (cs' := ((pre ++ [v]) ++ old).toArray) h o v (by
        subst hp
        simp)
      obtain ⟨h2, h3⟩ := ih (o + 1) (pre ++ [v]) (w.setCell ⟨g, o, none⟩ v) old g t (by simp [hp]) (by simpa using hl) h1
      refine ⟨by rw [World.setCells]; simpa using h2, fun k hk => ?_⟩
      rw [World.setCells, h3 k hk]
      exact Below.heap_setCell w ⟨g, o, none⟩ v k hk
theorem below_setCells (cs : List Value) : ∀ (o : Nat) (w : World) (g b : Nat), b ≤ g → Below b w (w.setCells g o cs) := by
  induction cs with
  | nil => exact fun _ w _ b _ => Below.refl b w
  | cons v cs ih =>
    intro o w g b hb
    rw [World.setCells]
    exact ((Below.refl b w).setCell (p := ⟨g, o, none⟩) hb v).trans (ih (o + 1) _ g b hb)
theorem store_row_event {P : Program} {ops : Array Oper} {rest : List Oper} {o : Oper} {a : Act} {Q : Exit → Act → World → Prop} {W : World} {base : Nat} (hgd : o.guard = none) (hN : o.dst = none) (T : TypeId) (p x : Operand) (ho : o.op = .store T p x)
    {g : Nat} {t : TypeId} {cs cs' : Array Value} (hp : a.eval p = .pointer (some ⟨g, 0, none⟩)) (hx : a.eval x = .agg cs') (hg : W.heap[g]? = some (.cells cs t (0, 0))) (hi : (P.info? T).map (·.size) = some cs'.size) (hs : cs'.size = cs.size) (h1 : cs'.toList.all (·.oneCell') = true) (hb : base ≤ g)
    (h : ∀ w1, w1.heap[g]? = some (.cells cs' t (0, 0)) → (∀ k, k ≠ g → w1.heap[k]? = W.heap[k]?) → Below base W w1 → wpList P ops Q rest a w1) : wpList P ops Q (o :: rest) a W := by
  refine wpList_store_mid hgd T p x ho g 0 cs' hp hx ?_ hi (by simpa using h1) ?_
  · intro j hj
    rw [Nat.zero_add]
    refine ⟨?_, blk_frozen hg j⟩
    rw [blk_cell hg j, Array.getElem?_eq_getElem (by omega)]
    rfl
  · rw [hN]
    obtain ⟨h2, h3⟩ := setCells_row cs'.toList 0 [] W cs.toList g t rfl (by simpa using hs.symm) (by simpa using hg)
    exact h _ (by simpa using h2) h3 (below_setCells _ _ _ _ _ hb)
theorem blk_else {w w1 : World} {g g' : Nat} {o : Obj} (h : w.heap[g]? = some o) (hne : g ≠ g') (hk : ∀ k, k ≠ g' → w1.heap[k]? = w.heap[k]?) : w1.heap[g]? = some o := (hk g hne).trans h
theorem gate_load {P : Program} {ops : Array Oper} {rest : List Oper} {o : Oper} {a : Act} {Q : Exit → Act → World → Prop} {W : World} {T : TypeId} {x : Operand} (_ho : o.op = .load T x) (h : wpList P ops Q (o :: rest) a W) : wpList P ops Q (o :: rest) a W := h
theorem load_row_event {P : Program} {ops : Array Oper} {rest : List Oper} {o : Oper} {a : Act} {w : World} {Q : Exit → Act → World → Prop} (hw : Region.wanted o (yielded ops a.tmps) = true) (ty : TypeId) (x : Operand) (ho : o.op = .load ty x)
    (g : Nat) (hx : a.eval x = .pointer (some ⟨g, 0, none⟩)) (t : TypeId) (cs : Array Value) (fr : Nat × Nat) (d : TypeDesc) (hg : w.heap[g]? = some (.cells cs t fr))
    (hu : P.underlying ty = some d) (hd : (match d with | .struct _ | .array _ _ => true | _ => false) = true) (hi : (P.info? ty).map (·.size) = some cs.size)
    (h : wpList P ops Q rest (a.put o.dst (.agg cs)) w) : wpList P ops Q (o :: rest) a w := by
  rw [wpList, if_pos hw]
  exact .inl (wp_load_row ty x ho g hx t cs fr d hg hu hd hi h)
end Go.Proofs.YtogkaifcelooaaaMy
namespace Go.Proofs.YtogkaifcelooaaaMy
open Go.RowKit
structure Open (F : Fence) : Prop where
  fn : ∀ f, F.fn f
  depth : F.depth = none
  eq : ∃ r, F = { Fence.wide with round := r }
theorem Open.deep {F : Fence} (h : Open F) {p : Prop} (hs : F.depth.isSome = true) : p := by rw [h.depth] at hs; cases hs
theorem open_wide : Open Fence.wide := ⟨fun _ => trivial, rfl, none, rfl⟩
theorem callsIn_open {F : Fence} (hF : Open F) {n : Nat} {P : Program} {f : FuncId} {args : Array Value} {w : World} {R : Ending → World → Prop} (h : Calls P f args w R) : CallsIn F n P f args w R := by
  obtain ⟨_, _, r, rfl⟩ := hF
  exact (callsIn_wide (n := n)).2 h
def noDefer (o : Oper) : Bool := match o.op with | .defer _ => false | _ => true
theorem noDefer_spec {o : Oper} (h : noDefer o = true) (c) : o.op ≠ .defer c := by
  intro e
  unfold noDefer at h
  rw [e] at h
  cases h
theorem opIn_of_op {F : Fence} (hF : Open F) {n : Nat} {P : Program} {o : Oper} {a : Act} {w : World} {next next' : Act → World → Prop} {Q Q' : Exit → Act → World → Prop} (hd : noDefer o = true) (hn : ∀ a w, next a w → next' a w) (hp : ∀ c a w, Q (.panic c) a w → Q' (.panic c) a w) (hl : LetsOut Q → LetsOut Q') (h : o.wp P a w next Q) : o.wpIn F n P a w next' Q' := by
  refine ⟨fun f _ => hF.fn f, ?_⟩
  rw [Oper.semAt_eq _ _ _ (noDefer_spec hd)]
  unfold Oper.wp at h
  generalize (execOp a.eval o).run P w = r at h
  cases r with
  | ok x w' =>
    cases x with
    | value v => exact hn _ _ h
    | skip => exact hn _ _ h
    | «defer» d => exact hn _ _ h
    | enter f args =>
      refine ⟨hF.deep, callsIn_open hF (Calls.mono (R := _) h fun e w' he => ?_)⟩
      cases e with
      | returned v => exact hn _ _ he
      | panicked c => exact hp _ _ _ he
      | outgrown => exact hl he
    | row row args =>
      refine ⟨hF.deep, ?_⟩
      obtain ⟨_, _, r, rfl⟩ := hF
      intro c cs _
      obtain ⟨v, w'', hr, hs⟩ := h c cs
      exact ⟨v, w'', hn _ _ hr, stepsIn_wide.2 hs⟩
    | _ => exact h.elim
  | halt hh w' =>
    cases hh with
    | panic v => exact hp _ _ _ h
    | _ => exact h.elim
theorem listIn_of_list {F : Fence} (hF : Open F) {n : Nat} {P : Program} {ops : Array Oper} {Q : Exit → Act → World → Prop} (hQ : ¬ LetsOut Q) (l rest : List Oper) (hd : l.all noDefer = true) : ∀ (a : Act) (w : World),
    wpList P ops (fun e a w => match e with | .normal => wpListIn F n P ops Q rest a w | e => Q e a w) l a w → wpListIn F n P ops Q (l ++ rest) a w := by
  induction l with
  | nil => exact fun _ _ h => h
  | cons o l ih =>
    intro a w h
    simp only [List.all_cons, Bool.and_eq_true] at hd
    simp only [List.cons_append, wpListIn]
    simp only [wpList] at h
    by_cases hw : Region.wanted o (yielded ops a.tmps) = true
    · rw [if_pos hw] at h ⊢
      rcases h with h | h
      · exact opIn_of_op hF hd.1 (fun a w => ih hd.2 a w) (fun _ _ _ h => h) (fun h => h) h
      · exact absurd h.2 hQ
    · rw [if_neg hw] at h ⊢
      exact ⟨fun f _ => hF.fn f, ih hd.2 _ _ h⟩
theorem grown_of_below {W W' : World} (h : Below W.heap.size W W') : W.grownBy W' none := ⟨h.os, h.tape, h.output, h.size, fun k hk _ => h.block k hk⟩
theorem abides_below {β : Type} {B : Nat} {J : β → World → Prop} (hJ : AbidesFrom B J) {s : β} {W W' : World} (hs : J s W) (h : Below W.heap.size W W') : J s W' := hJ s W W' none hs (grown_of_below h) (fun r e => by cases e)
def KpB (n₀ B : Nat) (W W' : World) : Prop := Below n₀ W W' ∧ W'.heap[B]? = W.heap[B]?
theorem kpB_t {n₀ B : Nat} {X Y Z : World} (h : KpB n₀ B X Y) (k : KpB n₀ B Y Z) : KpB n₀ B X Z := ⟨h.1.trans k.1, k.2.trans h.2⟩
theorem kpB_b {n₀ B : Nat} {w : World} (hn : n₀ ≤ w.heap.size) (hB : B < w.heap.size) (W : World) (l : Nat) (o o' : Obj) (hl : w.heap.size ≤ l) (h : W.heap[l]? = some o) (hc : o.isCells = false) (hw : o.isWalk = false) : KpB n₀ B W (W.putObj l o') :=
  ⟨belowK_b hn W l o o' hl h hc hw, World.putObj_heap_other (by omega)⟩
theorem store_one_event {P : Program} {ops : Array Oper} {rest : List Oper} {o : Oper} {a : Act} {Q : Exit → Act → World → Prop} {W : World} {base : Nat} (hgd : o.guard = none) (hN : o.dst = none) (T : TypeId) (p x : Operand) (ho : o.op = .store T p x)
    {g : Nat} {t : TypeId} {u v : Value} (hp : a.eval p = .pointer (some ⟨g, 0, none⟩)) (hx : a.eval x = v) (hg : W.heap[g]? = some (.cells #[u] t (0, 0))) (hi : (P.info? T).map (·.size) = some 1) (h1 : v.oneCell' = true) (hb : base ≤ g)
    (h : ∀ w1, w1.heap[g]? = some (.cells #[v] t (0, 0)) → (∀ k, k ≠ g → w1.heap[k]? = W.heap[k]?) → Below base W w1 → wpList P ops Q rest a w1) : wpList P ops Q (o :: rest) a W := by
  refine wpList_store_oneTo hgd T p x ho hN g v hp hx h1 t u hg hi (h _ (setRow_heap W g _ _ t _ hg) (fun k hk => ?_) ⟨rfl, rfl, rfl, by simp [World.setRow], fun k hk => ?_⟩)
  · simp only [World.setRow, Array.getElem?_modify]
    rw [if_neg (Ne.symm hk)]
  · simp only [World.setRow, Array.getElem?_modify]
    rw [if_neg (by omega)]
theorem row_own {β : Type} (B : Nat) (t : TypeId) (f : β → Array Value) : Own (fun s W => W.heap[B]? = some (.cells (f s) t (0, 0))) := fun s X Y row hs hg hrow =>
  (hg.block B (Array.getElem?_eq_some_iff.1 hs).1 (fun e => by
    obtain ⟨o, ho, hc⟩ := hrow B e.symm
    have hs' : X.heap[B]? = some (.cells (f s) t (0, 0)) := hs
    rw [hs'] at ho
    cases ho
    cases hc)).trans hs
def OneQ (F : Fence) (n : Nat) (P : Program) (ops : Array Oper) (Q : Exit → Act → World → Prop) (rest : List Oper) : Exit → Act → World → Prop := fun e a w => match e with | .normal => wpListIn F n P ops Q rest a w | e => Q e a w
theorem oneIn {F : Fence} (hF : Open F) {n : Nat} {P : Program} {ops : Array Oper} {Q : Exit → Act → World → Prop} {rest : List Oper} {o : Oper} {a : Act} {w : World} (hQ : ¬ LetsOut Q) (hd : noDefer o = true) (h : wpList P ops (OneQ F n P ops Q rest) [o] a w) : wpListIn F n P ops Q (o :: rest) a w :=
  listIn_of_list hF hQ [o] rest (by simp [hd]) a w h
theorem oneEnd {F : Fence} {n : Nat} {P : Program} {ops : Array Oper} {Q : Exit → Act → World → Prop} {rest : List Oper} {a : Act} {w : World} (h : wpListIn F n P ops Q rest a w) : wpList P ops (OneQ F n P ops Q rest) [] a w := h
theorem gateIn_load {F : Fence} {n : Nat} {P : Program} {ops : Array Oper} {rest : List Oper} {o : Oper} {a : Act} {Q : Exit → Act → World → Prop} {W : World} {T : TypeId} {x : Operand} (_ho : o.op = .load T x) (h : wpListIn F n P ops Q (o :: rest) a W) : wpListIn F n P ops Q (o :: rest) a W := h
end Go.Proofs.YtogkaifcelooaaaMy
