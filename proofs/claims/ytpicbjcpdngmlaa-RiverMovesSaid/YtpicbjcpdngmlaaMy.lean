/- Own words over the kit's: lemmas that the contracts of this seat use. -/
import Derived.WalkSpells
import Derived.WalkMore
import Derived.Deep.MidRow
import Derived.Lib.LazyBuf
import Derived.Shelf.Abstract
import Derived.Lib.SlBytesConst
import Derived.Great.BuildSlice
import Derived.RangeFuncNested
import Derived.RangeFuncLeaves
import Derived.OwnWalkIn
import Derived.TacticsInMore
import Derived.LoopNIn
import Derived.LoopIn
import Derived.ScopeJumps
import Derived.Laws.EntriesVeiled
import Derived.OrdersIn
import Derived.Test.YtpicbjcpdngmlaaProg
import Derived.Below
import Derived.Deep.Draws
import Derived.Deep.AppendLies
import Derived.Maps.AppendAt
import Derived.OwnWalk
import Derived.Laws.BytesArg
import Derived.Laws.MakeOwn
import Derived.Laws.OwnMore
import Derived.Deep.OwnRows
import Derived.Tactics
import Derived.Lib.ConvBytes
import Derived.Laws.Slices
import Derived.WalkKit
import Derived.KernelRfl
import Derived.RowKit3
import Derived.Deep.LoopGhost
import Derived.Deep.QuietTactic
import Derived.BigQuiet
import Derived.WideLaws
import Derived.Deep.DeepCutAuto
import Derived.Deep.CutBlock
import Derived.Deep.RegionHeld3
import Derived.Laws.Rows
import Derived.Lib.AppendStr
import Derived.ArgAppend
import Derived.Laws.IdiomCopy
import Derived.OrdersHeld
import Derived.Laws.BitsLemmas
import Derived.RowKit
import Derived.Test.YtpicbjcpdngmlaaWWords
import Derived.Test.YtpicbjcpdngmlaaWLast
import Derived.Test.YtpicbjcpdngmlaaWTab
import Derived.Test.YtpicbjcpdngmlaaWFour
import Derived.Test.YtpicbjcpdngmlaaWQPut
import Derived.Test.YtpicbjcpdngmlaaWApart
import Derived.Test.YtpicbjcpdngmlaaWArr
import Derived.Test.YtpicbjcpdngmlaaWZeros
import Derived.Test.YtpicbjcpdngmlaaWFoot
import Derived.Test.YtpicbjcpdngmlaaWKept
import Derived.Test.YtpicbjcpdngmlaaWShare
import Derived.Test.YtpicbjcpdngmlaaWN
import Derived.Test.YtpicbjcpdngmlaaWFootNe
import Derived.Test.YtpicbjcpdngmlaaWAt
import Derived.Test.YtpicbjcpdngmlaaWEqStruct
import Derived.Test.YtpicbjcpdngmlaaWRepsOne
import Derived.Test.YtpicbjcpdngmlaaWInv
import Derived.Test.YtpicbjcpdngmlaaWInvWords
import Derived.Test.YtpicbjcpdngmlaaWGuard
import Derived.Test.YtpicbjcpdngmlaaWNEv
import Derived.Test.YtpicbjcpdngmlaaWMore
namespace Go.Proofs.YtpicbjcpdngmlaaMy
end Go.Proofs.YtpicbjcpdngmlaaMy
namespace Go.Proofs.YtpicbjcpdngmlaaMy
open Go.RowKit Go.Proofs.YtpicbjcpdngmlaaW.PrintWords
def PredK {α : Type} (P : Program) (g : Nat) (lb : Array Value) (mk : List Value → Value) (d : Kd α) (p : α → Bool) (w : World) (xs : List α) : Prop :=
  ∀ x ∈ xs, ∀ (W : World) (cs : List Value), Below w.heap.size w W → d.K W x cs → Calls P g (#[mk cs] ++ lb) W fun e w' => e = .returned (.bool (p x)) ∧ Below W.heap.size W w'
def one1 (cs : List Value) : Value := cs.headD undef
def agg1 (cs : List Value) : Value := .agg cs.toArray
def idxOf {α : Type} (p : α → Bool) (l : List α) : Int := match l.findIdx? p with | some i => (i : Int) | none => -1
theorem C_elem {α : Type} {d : Kd α} {w : World} {A : Option Addr} {xs : List α} (h : d.C w A xs.length xs) (i : Nat) (hi : i < xs.length) :
    ∃ ad c, A = some ad ∧ c.length = d.sz ∧ d.K w xs[i] c ∧ ∀ j u, c[j]? = some u → w.cell? (ad.add (i * d.sz + j)) = some u := by
  obtain ⟨ad, c, h1, h2, h3, h4⟩ := Kd.C_get h xs[i] (i : Int) (by omega) (by omega)
  rw [Int.toNat_natCast] at h3 h4
  rw [List.getD_eq_getElem?_getD, List.getElem?_eq_getElem hi, Option.getD_some] at h3
  exact ⟨ad, c, h1, h2, h3, h4⟩
end Go.Proofs.YtpicbjcpdngmlaaMy
namespace Go.Proofs.YtpicbjcpdngmlaaMy
open Go.RowKit Go.Proofs.YtpicbjcpdngmlaaW.PrintWords
theorem cell_add1 {w : World} {ad : Addr} {m j : Nat} {u : Value} (hj : 0 < j) (h : w.cell? (ad.add (m + j)) = some u) : w.cell? ⟨(ad.add m).block, (ad.add m).off + j, none⟩ = some u := by
  have e : (⟨(ad.add m).block, (ad.add m).off + j, none⟩ : Addr) = ad.add (m + j) := by
    unfold Addr.add
    rw [if_neg (show ¬ (m + j = 0) by omega)]
    split
    · rename_i h0
      subst h0
      simp
    · simp [Nat.add_assoc]
  rw [e]
  exact h
end Go.Proofs.YtpicbjcpdngmlaaMy
namespace Go.Proofs.YtpicbjcpdngmlaaMy
open Go.RowKit Go.Proofs.YtpicbjcpdngmlaaW.PrintWords
end Go.Proofs.YtpicbjcpdngmlaaMy
namespace Go.Proofs.YtpicbjcpdngmlaaMy
open Go.RowKit Go.Proofs.YtpicbjcpdngmlaaW.PrintWords
def inR (a b : Int) (l : List Int) : Bool := !(l.any fun n => decide (n < a) || decide (n > b))
theorem setCells_row (cs : List Value) : ∀ (o : Nat) (pre : List Value) (w : World) (old : List Value) (g : Nat) (t : TypeId), pre.length = o → old.length = cs.length → w.heap[g]? = some (.cells (pre ++ old).toArray t (0, 0)) →
    (w.setCells g o cs).heap[g]? = some (.cells (pre ++ cs).toArray t (0, 0)) ∧ (∀ k, k ≠ g → (w.setCells g o cs).heap[k]? = w.heap[k]?) := by
  induction cs with
  | nil =>
    intro o pre w old g t _ hl h
    have : old = [] := List.length_eq_zero_iff.1 hl
    subst this
    exact ⟨h, fun _ _ => rfl⟩
  | cons v cs ih =>
    intro o pre w old g t hp hl h
    match old, hl with
    | u :: old, hl =>
      have h1 := blk_put (cs' := ((pre ++ [v]) ++ old).toArray) h o v (by
        subst hp
        simp)
      obtain ⟨h2, h3⟩ := ih (o + 1) (pre ++ [v]) (w.setCell ⟨g, o, none⟩ v) old g t (by simp [hp]) (by simpa using hl) h1
      refine ⟨by rw [World.setCells]; simpa using h2, fun k hk => ?_⟩
      rw [World.setCells, h3 k hk]
      exact Below.heap_setCell w ⟨g, o, none⟩ v k hk
theorem odt {p : Prop} [Decidable p] (h : decide p = true := by first | (with_reducible assumption) | assumption) : p := of_decide_eq_true h
theorem load_row_event {P : Program} {ops : Array Oper} {rest : List Oper} {o : Oper} {a : Act} {w : World} {Q : Exit → Act → World → Prop} (hw : Region.wanted o (yielded ops a.tmps) = true) (ty : TypeId) (x : Operand) (ho : o.op = .load ty x)
    (g : Nat) (hx : a.eval x = .pointer (some ⟨g, 0, none⟩)) (t : TypeId) (cs : Array Value) (fr : Nat × Nat) (d : TypeDesc) (hg : w.heap[g]? = some (.cells cs t fr))
    (hu : P.underlying ty = some d) (hd : (match d with | .struct _ | .array _ _ => true | _ => false) = true) (hi : (P.info? ty).map (·.size) = some cs.size)
    (h : wpList P ops Q rest (a.put o.dst (.agg cs)) w) : wpList P ops Q (o :: rest) a w := by
  rw [wpList, if_pos hw]
  exact .inl (wp_load_row ty x ho g hx t cs fr d hg hu hd hi h)
end Go.Proofs.YtpicbjcpdngmlaaMy
namespace Go.Proofs.YtpicbjcpdngmlaaMy
open Go.RowKit Go.Proofs.YtpicbjcpdngmlaaW.PrintWords
end Go.Proofs.YtpicbjcpdngmlaaMy
namespace Go.Proofs.YtpicbjcpdngmlaaMy
open Go.RowKit Go.Proofs.YtpicbjcpdngmlaaW.PrintWords
end Go.Proofs.YtpicbjcpdngmlaaMy
namespace Go.Proofs.YtpicbjcpdngmlaaMy
open Go.RowKit
structure Open (F : Fence) : Prop where
  fn : ∀ f, F.fn f
  depth : F.depth = none
  eq : ∃ r, F = { Fence.wide with round := r }
theorem Open.deep {F : Fence} (h : Open F) {p : Prop} (hs : F.depth.isSome = true) : p := by rw [h.depth] at hs; cases hs
theorem open_wide : Open Fence.wide := ⟨fun _ => trivial, rfl, none, rfl⟩
theorem open_in {F : Fence} (h : Open F) (l : Nat) : Open (F.inRound l) := by
  obtain ⟨h1, h2, r, rfl⟩ := h
  exact ⟨h1, h2, some l, rfl⟩
theorem callsIn_open {F : Fence} (hF : Open F) {n : Nat} {P : Program} {f : FuncId} {args : Array Value} {w : World} {R : Ending → World → Prop} (h : Calls P f args w R) : CallsIn F n P f args w R := by
  obtain ⟨_, _, r, rfl⟩ := hF
  exact (callsIn_wide (n := n)).2 h
def noDefer (o : Oper) : Bool := match o.op with | .defer _ => false | _ => true
theorem noDefer_spec {o : Oper} (h : noDefer o = true) (c) : o.op ≠ .defer c := by
  intro e
  unfold noDefer at h
  rw [e] at h
  cases h
theorem opIn_of_op {F : Fence} (hF : Open F) {n : Nat} {P : Program} {o : Oper} {a : Act} {w : World} {next next' : Act → World → Prop} {Q Q' : Exit → Act → World → Prop} (hd : noDefer o = true) (hn : ∀ a w, next a w → next' a w) (hp : ∀ c a w, Q (.panic c) a w → Q' (.panic c) a w) (hl : LetsOut Q → LetsOut Q') (h : o.wp P a w next Q) : o.wpIn F n P a w next' Q' := by
  refine ⟨fun f _ => hF.fn f, ?_⟩
  rw [Oper.semAt_eq _ _ _ (noDefer_spec hd)]
  unfold Oper.wp at h
  generalize (execOp a.eval o).run P w = r at h
  cases r with
  | ok x w' =>
    cases x with
    | value v => exact hn _ _ h
    | skip => exact hn _ _ h
    | «defer» d => exact hn _ _ h
    | enter f args =>
      refine ⟨hF.deep, callsIn_open hF (Calls.mono (R := _) h fun e w' he => ?_)⟩
      cases e with
      | returned v => exact hn _ _ he
      | panicked c => exact hp _ _ _ he
      | outgrown => exact hl he
    | row row args =>
      refine ⟨hF.deep, ?_⟩
      obtain ⟨_, _, r, rfl⟩ := hF
      intro c cs _
      obtain ⟨v, w'', hr, hs⟩ := h c cs
      exact ⟨v, w'', hn _ _ hr, stepsIn_wide.2 hs⟩
    | _ => exact h.elim
  | halt hh w' =>
    cases hh with
    | panic v => exact hp _ _ _ h
    | _ => exact h.elim
theorem listIn_of_list {F : Fence} (hF : Open F) {n : Nat} {P : Program} {ops : Array Oper} {Q : Exit → Act → World → Prop} (hQ : ¬ LetsOut Q) (l rest : List Oper) (hd : l.all noDefer = true) : ∀ (a : Act) (w : World),
    wpList P ops (fun e a w => match e with | .normal => wpListIn F n P ops Q rest a w | e => Q e a w) l a w → wpListIn F n P ops Q (l ++ rest) a w := by
  induction l with
  | nil => exact fun _ _ h => h
  | cons o l ih =>
    intro a w h
    simp only [List.all_cons, Bool.and_eq_true] at hd
    simp only [List.cons_append, wpListIn]
    simp only [wpList] at h
    by_cases hw : Region.wanted o (yielded ops a.tmps) = true
    · rw [if_pos hw] at h ⊢
      rcases h with h | h
      · exact opIn_of_op hF hd.1 (fun a w => ih hd.2 a w) (fun _ _ _ h => h) (fun h => h) h
      · exact absurd h.2 hQ
    · rw [if_neg hw] at h ⊢
      exact ⟨fun f _ => hF.fn f, ih hd.2 _ _ h⟩
theorem regionIn_lit {F : Fence} (hF : Open F) {n : Nat} {P : Program} {id : Nat} {l : List Oper} {Q : Exit → Act → World → Prop} {a : Act} {w : World} (hQ : ¬ LetsOut Q) (hd : l.all noDefer = true) (h : wpList P l.toArray Q l a w) : (Code.region id l.toArray false).wpIn F n P Q a w :=
  wpIn_region_lit (by
    have := listIn_of_list hF (n := n) (ops := l.toArray) (Q := Q) hQ l [] hd a w (by
      have e : (fun (e : Exit) (a : Act) (w : World) => match e with | .normal => wpListIn F n P l.toArray Q [] a w | e => Q e a w) = Q := by
        funext e a w
        cases e <;> rfl
      rw [e]
      exact h)
    simpa using this)
theorem grown_of_below {W W' : World} (h : Below W.heap.size W W') : W.grownBy W' none := ⟨h.os, h.tape, h.output, h.size, fun k hk _ => h.block k hk⟩
def KpB (n₀ B : Nat) (W W' : World) : Prop := Below n₀ W W' ∧ W'.heap[B]? = W.heap[B]?
theorem kpB_t {n₀ B : Nat} {X Y Z : World} (h : KpB n₀ B X Y) (k : KpB n₀ B Y Z) : KpB n₀ B X Z := ⟨h.1.trans k.1, k.2.trans h.2⟩
theorem kpB_b {n₀ B : Nat} {w : World} (hn : n₀ ≤ w.heap.size) (hB : B < w.heap.size) (W : World) (l : Nat) (o o' : Obj) (hl : w.heap.size ≤ l) (h : W.heap[l]? = some o) (hc : o.isCells = false) (hw : o.isWalk = false) : KpB n₀ B W (W.putObj l o') :=
  ⟨belowK_b hn W l o o' hl h hc hw, World.putObj_heap_other (by omega)⟩
theorem store_one_event {P : Program} {ops : Array Oper} {rest : List Oper} {o : Oper} {a : Act} {Q : Exit → Act → World → Prop} {W : World} {base : Nat} (hgd : o.guard = none) (hN : o.dst = none) (T : TypeId) (p x : Operand) (ho : o.op = .store T p x)
    {g : Nat} {t : TypeId} {u v : Value} (hp : a.eval p = .pointer (some ⟨g, 0, none⟩)) (hx : a.eval x = v) (hg : W.heap[g]? = some (.cells #[u] t (0, 0))) (hi : (P.info? T).map (·.size) = some 1) (h1 : v.oneCell' = true) (hb : base ≤ g)
    (h : ∀ w1, w1.heap[g]? = some (.cells #[v] t (0, 0)) → (∀ k, k ≠ g → w1.heap[k]? = W.heap[k]?) → Below base W w1 → wpList P ops Q rest a w1) : wpList P ops Q (o :: rest) a W := by
  refine wpList_store_oneTo hgd T p x ho hN g v hp hx h1 t u hg hi (h _ (setRow_heap W g _ _ t _ hg) (fun k hk => ?_) ⟨rfl, rfl, rfl, by simp [World.setRow], fun k hk => ?_⟩)
  · simp only [World.setRow, Array.getElem?_modify]
    rw [if_neg (Ne.symm hk)]
  · simp only [World.setRow, Array.getElem?_modify]
    rw [if_neg (by omega)]
def OneQ (F : Fence) (n : Nat) (P : Program) (ops : Array Oper) (Q : Exit → Act → World → Prop) (rest : List Oper) : Exit → Act → World → Prop := fun e a w => match e with | .normal => wpListIn F n P ops Q rest a w | e => Q e a w
end Go.Proofs.YtpicbjcpdngmlaaMy
namespace Go.Proofs.YtpicbjcpdngmlaaMy
open Go.RowKit Go.Proofs.YtpicbjcpdngmlaaW.PrintWords
def AbidesAt {β : Type} (B : Nat) (J : β → World → Prop) : Prop := ∀ s W W', J s W → W.grownBy W' (some B) → J s W'
def SeqStopsB {α : Type} (F : Fence) (n : Nat) (P : Program) (g : Nat) (lb : Array Value) (encs : α → Array Value) (Kp : World → World → Prop) (S Sp : List α → Prop) (N : Nat) (w : World) (B : Nat) : Prop :=
  ∀ (l : Nat) (J Jx : List α → World → Prop) (W : World), Below w.heap.size w W → AbidesFrom W.heap.size J → AbidesAt B J → AbidesAt B Jx →
    (∀ pre x W1, J pre W1 → pre.length < N → YieldAt F (n - 1) P l (encs x) W1 fun e W' =>
      (e = .returned (.bool true) ∧ J (pre ++ [x]) W' ∧ Kp W1 W') ∨ (e = .returned (.bool false) ∧ Jx (pre ++ [x]) W')) →
    J [] W →
    CallsIn F n P g (#[.func (.yield l) #[] #[]] ++ lb) W fun e W' => (∃ v, e = .returned v) ∧ ((∃ xs, S xs ∧ J xs W') ∨ (∃ pre, Sp pre ∧ Jx pre W'))
def Book (L D : Nat) (r : Loop) (W : World) : Prop := W.heap[L]? = some (.loop r) ∧ W.heap[D]? = some (.deferred (some []))
theorem book_at {L D B : Nat} {r : Loop} (hL : L ≠ B) (hD : D ≠ B) {W W' : World} (h : Book L D r W) (hg : W.grownBy W' (some B)) : Book L D r W' :=
  ⟨(hg.block L (Array.getElem?_eq_some_iff.1 h.1).1 (fun e => hL (Option.some.inj e))).trans h.1, (hg.block D (Array.getElem?_eq_some_iff.1 h.2).1 (fun e => hD (Option.some.inj e))).trans h.2⟩
theorem book_turn {L D : Nat} {r r' : Loop} {W : World} (hne : D ≠ L) (h : Book L D r W) : Book L D r' (W.putObj L (.loop r')) :=
  ⟨World.putObj_heap_same (Array.getElem?_eq_some_iff.1 h.1).1, (World.putObj_heap_other hne).trans h.2⟩
end Go.Proofs.YtpicbjcpdngmlaaMy
namespace Go.Proofs.YtpicbjcpdngmlaaMy
open Go.RowKit Go.Proofs.YtpicbjcpdngmlaaW.PrintWords Go.Proofs.YtpicbjcpdngmlaaW.PrintLast
section
variable {F : Fence} {n : Nat} {P : Program} {ops : Array Oper} {Q : Exit → Act → World → Prop} {md : Region.Mode} {S : World → Prop} {ds : List Nat}
theorem yieldsR {i : Nat} {o : Oper} {v : Value} {a : Act} (hF : Open F) (hd : noDefer o = true) (hi : ops[i]? = some o) (hy : YieldsIf P ops S o v a) {K : Act → World → Prop} {w : World} (hS : S w) (h : K (a.put o.dst v) w) : wpOpIn F n P ops Q i K a w := by
  unfold wpOpIn
  simp only [hi]
  have hab : ∀ f, o.about P w a.eval = some f → F.fn f := fun f _ => hF.fn f
  rcases hy with ⟨hw, hv⟩ | ⟨hw, rfl⟩
  · simp only [hw, if_true, Oper.wpIn, Oper.semAt_eq _ _ _ (noDefer_spec hd), hv w hS, Oper.uponIn]
    exact ⟨hab, h⟩
  · simp only [hw, Bool.false_eq_true, if_false]
    exact ⟨hab, h⟩
theorem putR {j : Nat} {oi oj : Oper} {v : Value} (hF : Open F) (hd : noDefer oj = true) (hj : ops[j]? = some oj) (hap : oi.apart ops oj = true) (hsi : ∀ cs b, oi.op ≠ .select cs b) (hsj : ∀ cs b, oj.op ≠ .select cs b)
    (hQ : ∀ c a w, Q (.panic c) (a.put oi.dst v) w → Q (.panic c) a w) {K : Act → World → Prop} {a : Act} {w : World} (hy : YieldsIf P ops S oi v a) (h : wpOpIn F n P ops Q j K (a.put oi.dst v) w) :
    wpOpIn F n P ops Q j (fun a' w' => YieldsIf P ops S oi v a' ∧ K (a'.put oi.dst v) w') a w := by
  obtain ⟨h1, h2, h3⟩ := Oper.apart_spec hap
  have keep : ∀ (a : Act), YieldsIf P ops S oi v a → ∀ u, YieldsIf P ops S oi v (a.put oj.dst u) := fun a hy u => hy.of_same (execOp_put oi hsi a oj.dst u h3) (wanted_put oi a oj.dst u h3)
  have keepD : ∀ d, YieldsIf P ops S oi v { a with defers := d :: a.defers } := fun d => hy.of_same rfl rfl
  have hall : ∀ (x : Oper) (w : World) (ρ : Operand → Value), ∀ f, x.about P w ρ = some f → F.fn f := fun _ _ _ f _ => hF.fn f
  unfold wpOpIn at *
  simp only [hj] at *
  rw [wanted_put oj a oi.dst v h1] at h
  split
  · rename_i hw
    simp only [hw, if_true] at h
    unfold Oper.wpIn at *
    refine ⟨hall _ _ _, ?_⟩
    have h := h.2
    rw [Oper.semAt_eq _ _ _ (noDefer_spec hd), execOp_put oj hsj a oi.dst v h1] at h
    rw [Oper.semAt_eq _ _ _ (noDefer_spec hd)]
    generalize (execOp a.eval oj).run P w = r at *
    cases r with
    | ok x w' =>
      cases x <;> simp only [Oper.uponIn] at h ⊢
      case value u => exact ⟨keep a hy u, by rw [← Act.put_comm a v u h2]; exact h⟩
      case skip => exact ⟨keep a hy _, by rw [← Act.put_comm a v undef h2]; exact h⟩
      case defer d =>
        refine ⟨keep _ (keepD d) _, ?_⟩
        rw [← Act.put_comm _ v undef h2, ← Act.put_defers]
        exact h
      case enter f args =>
        refine ⟨h.1, CallsIn.mono h.2 fun e w'' he => ?_⟩
        cases e with
        | returned u => exact ⟨keep a hy u, by rw [← Act.put_comm a v u h2]; exact he⟩
        | panicked c => exact hQ _ _ _ he
        | outgrown => exact he
      case row row args => exact ⟨h.1, RowsIn.mono h.2 fun u w'' he => ⟨keep a hy u, by rw [← Act.put_comm a v u h2]; exact he⟩⟩
      case round l f tmps assign body =>
        refine ⟨h.1, RoundIn.mono h.2 fun e w'' he => ?_⟩
        cases e with
        | returned u => exact ⟨keep a hy u, by rw [← Act.put_comm a v u h2]; exact he⟩
        | panicked c => exact hQ _ _ _ he
        | outgrown => exact he
    | halt x w' =>
      cases x <;> simp only [Oper.uponIn] at h ⊢
      case panic u => exact hQ _ _ _ h
  · rename_i hw
    simp only [hw] at h
    exact ⟨hall _ _ _, keep a hy _, by rw [← Act.put_comm a v undef h2]; exact h.2⟩
def AnyR (F : Fence) (n : Nat) (P : Program) (md : Region.Mode) (ops : Array Oper) (Q : Exit → Act → World → Prop) (S : World → Prop) (ds : List Nat) : Nat → Array Bool → Act → World → Prop
  | 0, listed, a, w => Region.ready md ops listed = [] ∧ Q .normal a w
  | fuel + 1, listed, a, w => (Region.ready md ops listed = [] → Q .normal a w) ∧
    ∀ i ∈ Region.ready md ops listed, wpOpIn F n P ops Q i (fun a' w' => (i ∉ ds → S w → S w') ∧ AnyR F n P md ops Q S ds fuel (listed.setIfInBounds i true) a' w') a w
theorem anyIn_of_R : ∀ (fuel : Nat) (listed : Array Bool) (a : Act) (w : World), AnyR F n P md ops Q S ds fuel listed a w → wpAnyIn F n P md ops Q fuel listed a w
  | 0, _, _, _, h => h
  | fuel + 1, _, _, _, h => ⟨h.1, fun i hi => wpOpIn_mono (fun a' w' h' => anyIn_of_R fuel _ a' w' h'.2) (h.2 i hi)⟩
theorem firstR {i : Nat} {oi : Oper} {v : Value} (hF : Open F) (hno : ∀ (j : Nat) (o : Oper), ops[j]? = some o → noDefer o = true) (hi : ops[i]? = some oi) (hsel : ∀ (j : Nat) (o : Oper) cs b, ops[j]? = some o → o.op ≠ .select cs b)
    (hQ : ∀ c a w, Q (.panic c) (a.put oi.dst v) w → Q (.panic c) a w) (m : Nat) (T : World → Prop) :
    ∀ (fuel : Nat) (listed : Array Bool) (a : Act) (w : World),
      (∀ j oj, ops[j]? = some oj → j ≠ i → listed.getD j true = false → (∀ e ∈ oj.after, Region.binds md e = true → e.on ≠ i) → oi.apart ops oj = true) →
      ListedClosed md ops listed → ((∀ w, T w) ∨ (T = S ∧ ∀ d ∈ ds, listed.getD d true = false → Region.reachB md ops i m d = true)) →
      i ∈ Region.ready md ops listed → YieldsIf P ops T oi v a → T w →
      AnyR F n P md ops Q S ds fuel (listed.setIfInBounds i true) (a.put oi.dst v) w → AnyR F n P md ops Q S ds (fuel + 1) listed a w := by
  intro fuel
  induction fuel with
  | zero =>
    intro listed a w _ _ _ hr hy hS H
    refine ⟨fun h => (by rw [h] at hr; cases hr), fun j hj => ?_⟩
    by_cases hji : j = i
    · subst hji; exact yieldsR hF (hno _ _ hi) hi hy hS ⟨fun _ h => h, H⟩
    · have := ready_mono hj hji
      rw [H.1] at this
      cases this
  | succ fuel ih =>
    intro listed a w hfree hc hd hr hy hS H
    refine ⟨fun h => (by rw [h] at hr; cases hr), fun j hj => ?_⟩
    by_cases hji : j = i
    · subst hji; exact yieldsR hF (hno _ _ hi) hi hy hS ⟨fun _ h => h, H⟩
    · have h1 := H.2 j (ready_mono hj hji)
      obtain ⟨hjun, oj, hoj, hall⟩ := mem_ready.1 hj
      have hiun := (mem_ready.1 hr).1
      have hnot : ∀ e ∈ oj.after, Region.binds md e = true → e.on ≠ i := fun e he hb heq => by
        have h1 := hall e he hb
        rw [heq] at h1
        rcases Nat.lt_or_ge i listed.size with h' | h'
        · simp [h'] at hiun h1; rw [hiun] at h1; cases h1
        · simp [Array.getElem?_eq_none h'] at h1
      have h2 := putR (S := T) hF (hno _ _ hoj) hoj (hfree j oj hoj hji hjun hnot) (fun cs b => hsel i oi cs b hi) (fun cs b => hsel j oj cs b hoj) hQ hy h1
      have hfree' : ∀ k ok, ops[k]? = some ok → k ≠ i → (listed.setIfInBounds j true).getD k true = false →
          (∀ e ∈ ok.after, Region.binds md e = true → e.on ≠ i) → oi.apart ops ok = true := fun k ok hk hki hun hno2 => by
        refine hfree k ok hk hki ?_ hno2
        by_cases hjk : j = k
        · subst hjk; exact hjun
        · rw [getD_set_ne true hjk] at hun; exact hun
      have hd' : (∀ w, T w) ∨ (T = S ∧ ∀ d ∈ ds, (listed.setIfInBounds j true).getD d true = false → Region.reachB md ops i m d = true) := hd.imp_right fun ⟨e, hd⟩ => ⟨e, fun d hm hun => by
        refine hd d hm ?_
        by_cases hjk : j = d
        · subst hjk; exact hjun
        · rw [getD_set_ne true hjk] at hun; exact hun⟩
      have hT : ∀ w', (j ∉ ds → S w → S w') → T w' := fun w' hs => by
        rcases hd with h | ⟨e, hd⟩
        · exact h w'
        · subst e
          exact hs (fun hm => Region.reach_not_ready hc (hd j hm hjun) hiun hj) hS
      refine wpOpIn_mono (fun a' w' h3 => ⟨h3.2.1, ih (listed.setIfInBounds j true) a' w' hfree' (hc.set hj) hd' (ready_mono hr (Ne.symm hji)) h3.1 (hT w' h3.2.1) ?_⟩) h2
      rw [Array.setIfInBounds_comm _ _ hji]
      exact h3.2.2
theorem noDefers_spec (h : ops.all noDefer = true) : ∀ (j : Nat) (o : Oper), ops[j]? = some o → noDefer o = true := fun j o hj => by
  obtain ⟨hl, he⟩ := Array.getElem?_eq_some_iff.1 hj
  subst he
  exact Array.all_eq_true.1 h j hl
theorem takeR_ {i : Nat} {N : Option Tmp} {oi : Oper} {v : Value} {fuel : Nat} {l : Array Bool} {a : Act} {w : World} (l' : Array Bool) (hF : Open F) (hno : ops.all noDefer = true) (hi : ops[i]? = some oi) (hN : oi.dst = N) (hc : takeB md ops ds l l' i = true)
    (hQ : ∀ c a w, Q (.panic c) (a.put oi.dst v) w → Q (.panic c) a w) (hy : YieldsIf P ops S oi v a) (hS : S w) {a' : Act} (ha : a.put N v = a') (h : AnyR F n P md ops Q S ds fuel l' a' w) : AnyR F n P md ops Q S ds (fuel + 1) l a w := by
  subst ha
  subst hN
  simp only [takeB, Bool.and_eq_true, beq_iff_eq] at hc
  obtain ⟨⟨⟨⟨⟨h1, h2⟩, h3⟩, h4⟩, h5⟩, h6⟩ := hc
  subst h6
  exact firstR hF (noDefers_spec hno) hi (Region.noSelect_spec h1) hQ ops.size S fuel l a w (Region.free_spec hi h2) (Region.closedB_spec h4) (.inr ⟨rfl, fun d hm hun => by have := List.all_eq_true.1 h5 d hm; rw [hun] at this; simpa using this⟩) (by simpa using h3) hy hS h
def pureB (md : Region.Mode) (ops : Array Oper) (l l' : Array Bool) (i : Nat) : Bool := anyB md ops l l' i && Region.closedB md ops l
theorem pureR_ {i : Nat} {N : Option Tmp} {oi : Oper} {v : Value} {fuel : Nat} {l : Array Bool} {a : Act} {w : World} (l' : Array Bool) (hF : Open F) (hno : ops.all noDefer = true) (hi : ops[i]? = some oi) (hN : oi.dst = N) (hc : pureB md ops l l' i = true)
    (hQ : ∀ c a w, Q (.panic c) (a.put oi.dst v) w → Q (.panic c) a w) (hy : Yields P ops oi v a) {a' : Act} (ha : a.put N v = a') (h : AnyR F n P md ops Q S ds fuel l' a' w) : AnyR F n P md ops Q S ds (fuel + 1) l a w := by
  subst ha
  subst hN
  simp only [pureB, anyB, Bool.and_eq_true, beq_iff_eq] at hc
  obtain ⟨⟨⟨⟨h1, h2⟩, h3⟩, h6⟩, h4⟩ := hc
  subst h6
  exact firstR hF (noDefers_spec hno) hi (Region.noSelect_spec h1) hQ 0 (fun _ => True) fuel l a w (Region.free_spec hi h2) (Region.closedB_spec h4) (.inl fun _ => trivial) (by simpa using h3) hy.yieldsIf trivial h
theorem lastR_ {i : Nat} {N : Option Tmp} {oi : Oper} {fuel : Nat} {l : Array Bool} {a : Act} {w : World} (l' : Array Bool) (hF : Open F) (hi : ops[i]? = some oi) (hN : oi.dst = N) (hc : readyB md ops l l' i = true) (hd : i ∈ ds)
    (h : if Region.wanted oi (yielded ops a.tmps) = true then Oper.wpIn F n P oi a w (fun a' w' => AnyR F n P md ops Q S ds fuel l' a' w') Q else AnyR F n P md ops Q S ds fuel l' (a.put N undef) w) : AnyR F n P md ops Q S ds (fuel + 1) l a w := by
  subst hN
  simp only [readyB, Bool.and_eq_true, beq_iff_eq] at hc
  obtain ⟨h1, h2⟩ := hc
  subst h2
  refine ⟨fun h0 => (by rw [h1] at h0; cases h0), fun j hj => ?_⟩
  rw [h1] at hj
  obtain rfl := List.mem_singleton.1 hj
  unfold wpOpIn
  simp only [hi]
  split
  · rename_i hw
    rw [if_pos hw] at h
    exact Oper.wpIn_mono (fun a w hh => ⟨fun hn => absurd hd hn, hh⟩) h
  · rename_i hw
    rw [if_neg hw] at h
    exact ⟨fun f _ => hF.fn f, fun hn => absurd hd hn, h⟩
theorem doneR_ {l : Array Bool} {a : Act} {w : World} (hr : (Region.ready md ops l == []) = true) (h : Q .normal a w) : ∀ m, AnyR F n P md ops Q S ds m l a w
  | 0 => ⟨by simpa using hr, h⟩
  | _ + 1 => ⟨fun _ => h, by rw [show Region.ready md ops l = [] from by simpa using hr]; simp⟩
theorem normR_ {fuel : Nat} {l : Array Bool} {a a' : Act} {w : World} (ha : a = a') (h : AnyR F n P md ops Q S ds fuel l a' w) : AnyR F n P md ops Q S ds fuel l a w := by
  subst ha
  exact h
theorem startR_ {id m : Nat} {a : Act} {w : World} (l : Array Bool) (hm : P.follows .mixedOrders = true) (hn : ops.size = m) (hl : Array.replicate m false = l) (hS : S w.drew) (h : S w.drew → AnyR F n P .any ops Q S ds m l a w.drew) : (Code.region id ops true).wpIn F n P Q a w := by
  subst hn
  subst hl
  exact wpIn_region_any hm (anyIn_of_R _ _ _ _ (h hS))
theorem yieldAny {l : Nat} (hd : F.depth = none) {m : Nat} (m' : Nat) {l2 : Nat} {args : Array Value} {W : World} {R : Ending → World → Prop} (h : YieldAt F m P l args W R) : YieldAt (F.inRound l2) m' P l args W R := by
  obtain ⟨fn, tmps, assign, body, hy, hR⟩ := h
  exact ⟨fn, tmps, assign, body, hy, hR.1, fun c cs _ => hR.2 c cs (fun d h => by rw [hd] at h; cases h)⟩
end
end Go.Proofs.YtpicbjcpdngmlaaMy
namespace Go.Proofs.YtpicbjcpdngmlaaMy
open Go.RowKit Go.Proofs.YtpicbjcpdngmlaaW.PrintWords
def AbidesBy {β : Type} (Z : Nat → World → Prop) (J : β → World → Prop) : Prop := ∀ s W W' k, J s W → Z k W → W.grownBy W' (some k) → J s W'
def SeqStopsZ {α : Type} (F : Fence) (n : Nat) (P : Program) (g : Nat) (lb : Array Value) (encs : α → Array Value) (Kp : World → World → Prop) (S Sp : List α → Prop) (N : Nat) (w : World) (Z : Nat → World → Prop) : Prop :=
  ∀ (l : Nat) (J Jx : List α → World → Prop) (W : World), Below w.heap.size w W → OwnFrom W.heap.size J → OwnFrom W.heap.size Jx → AbidesBy Z J → AbidesBy Z Jx →
    (∀ pre x W1, J pre W1 → pre.length < N → YieldAt F (n - 1) P l (encs x) W1 fun e W' =>
      (e = .returned (.bool true) ∧ J (pre ++ [x]) W' ∧ Kp W1 W') ∨ (e = .returned (.bool false) ∧ Jx (pre ++ [x]) W' ∧ Kp W1 W')) →
    J [] W →
    CallsIn F n P g (#[.func (.yield l) #[] #[]] ++ lb) W fun e W' => (∃ v, e = .returned v) ∧ ((∃ xs, S xs ∧ J xs W') ∨ (∃ pre, Sp pre ∧ Jx pre W'))
theorem book_by {L D k : Nat} {r : Loop} {W W' : World} (hk : ∃ o : Obj, W.heap[k]? = some o ∧ o.isCells = true) (h : Book L D r W) (hg : W.grownBy W' (some k)) : Book L D r W' := by
  obtain ⟨o, ho, hc⟩ := hk
  refine book_at (B := k) (fun e => ?_) (fun e => ?_) h hg
  · subst e
    rw [h.1] at ho
    obtain rfl := Option.some.inj ho
    cases hc
  · subst e
    rw [h.2] at ho
    obtain rfl := Option.some.inj ho
    cases hc
theorem book_from {L D m : Nat} {r : Loop} {W W' : World} {row : Option Nat} (hL : L < m) (hD : D < m) (h : Book L D r W) (hg : W.grownBy W' row) (hr : ∀ q, row = some q → m ≤ q) : Book L D r W' :=
  ⟨(hg.block L (Array.getElem?_eq_some_iff.1 h.1).1 (fun e => by have := hr L e.symm; omega)).trans h.1, (hg.block D (Array.getElem?_eq_some_iff.1 h.2).1 (fun e => by have := hr D e.symm; omega)).trans h.2⟩
def ownPostZ {α : Type} (B : Nat) (Kp : World → World → Prop) (I : List α → World → Prop) (Ix : Code → List α → World → Prop) (xs : List α) (W : World) : Exit → Act → World → Prop
  | .normal, _, W' => KeepsFrom B W W' ∧ Kp W W' ∧ I xs W'
  | .ret, _, W' => KeepsFrom B W W' ∧ Kp W W' ∧ Ix .ret xs W'
  | .exit id, _, W' => KeepsFrom B W W' ∧ Kp W W' ∧ Ix (.exit id) xs W'
  | .goto t, _, W' => KeepsFrom B W W' ∧ Kp W W' ∧ Ix (.goto t) xs W'
  | .panic _, _, _ => False
  | .outgrown, _, _ => False
theorem wpIn_rangeFunc_ownZ {F : Fence} {n : Nat} {P : Program} {w : World} {α : Type} {g : Operand} {ps : Array Tmp} {assign body : Code} {Q : Exit → Act → World → Prop} {a : Act}
    (hro : F.round = none) (h1 : 1 ≤ n) {gf : Nat} {lb : Array Value} (hg : a.eval g = .func (.func gf) #[] lb) (hFg : F.fn gf) (eg : ∀ args w, (callFunc gf args).run P w = .ok (.enter gf args) w)
    {encs : α → Array Value} {Kp : World → World → Prop} {S Sp : List α → Prop} {N : Nat} {w0 : World} {Z : Nat → World → Prop} (hseq : SeqStopsZ F (n - 1) P gf lb encs Kp S Sp N w0 Z) (hZ : ∀ k X, Z k X → ∃ o : Obj, X.heap[k]? = some o ∧ o.isCells = true)
    (hKt : ∀ {A B C : World}, Kp A B → Kp B C → Kp A C) (hKb : ∀ (W : World) (o o' : Obj), W.heap[w.heap.size + 1]? = some o → o.isCells = false → o.isWalk = false → Kp W (W.putObj (w.heap.size + 1) o')) (hb0 : Below w0.heap.size w0 w) (hps : ∀ x, (encs x).size = ps.size)
    (I : List α → World → Prop) (Ix : Code → List α → World → Prop) (hI : OwnFrom w.heap.size I) (hIx : ∀ c, OwnFrom w.heap.size (Ix c)) (hIB : AbidesBy Z I) (hIxB : ∀ c, AbidesBy Z (Ix c)) (h0 : I [] w) (Ax : α → Act → World → Prop) (hAx : ∀ x a', OwnFrom w.heap.size (fun (_ : Unit) W => Ax x a' W))
    (hassign : ∀ (l : Nat) (pre : List α) (x : α) (W : World) (K : Act → World → Prop), I pre W → (∀ a' W', KeepsFrom w.heap.size W W' → Kp W W' → I pre W' → Ax x a' W' → K a' W') →
      assign.wpIn (F.inRound l) (n - 1 - 1) P (Exit.then K (fun _ _ _ => False)) { tmps := (ps.zip (encs x)).foldl (fun t (p, v) => t.setIfInBounds p v) a.tmps, defers := [] } W)
    (hbody : ∀ (l : Nat) (pre : List α) (x : α) (a' : Act) (W : World), w.heap.size ≤ l → (∃ r, W.heap[l]? = some (.loop r)) → I pre W → Ax x a' W → pre.length < N → body.wpIn (F.inRound l) (n - 1 - 1) P (ownPostZ w.heap.size Kp I Ix (pre ++ [x]) W) a' W)
    (hdone : ∀ (D : Nat) (xs : List α) (W : World), w.heap.size ≤ D → S xs → I xs W → W.heap[D]? = some (.deferred (some [])) → Q .normal { a with defers := { target := .collected D, args := #[] } :: a.defers } W)
    (hstop : ∀ (D : Nat) (c : Code) (pre : List α) (W : World), w.heap.size ≤ D → Sp pre → Ix c pre W → W.heap[D]? = some (.deferred (some [])) → c.wpIn F n P Q { a with defers := { target := .collected D, args := #[] } :: a.defers } W) :
    (Code.rangeFunc g ps assign body).wpIn F n P Q a w := by
  refine wpIn_rangeFunc fun fn hfn => ?_
  rw [hro]
  -- what is laid ahead of the first round
  let D := w.heap.size
  let L := w.heap.size + 1
  let rec_ : LoopState → Option Code → Loop := fun st pe => { state := st, pending := pe, fn, tmps := a.tmps, params := ps, assign, body, defers := D }
  let W1 := (w.alloc (.deferred (some []))).alloc (.loop (rec_ .ready none))
  have hDL : D ≠ L := Nat.ne_of_lt (Nat.lt_succ_self _)
  have hbk1 : Book L D (rec_ .ready none) W1 := by
    refine ⟨?_, (Below.heap_alloc _ _ _ (by show w.heap.size < (w.alloc _).heap.size; simp)).trans (World.alloc_heap_new w _)⟩
    have := World.alloc_heap_new (w.alloc (.deferred (some []))) (.loop (rec_ .ready none))
    rwa [World.size_alloc] at this
  have hI1 : I [] W1 := hI.alloc _ (hI.alloc _ h0)
  have hb1 : Below w0.heap.size w0 W1 := hb0.trans ((((Below.refl _ w).alloc (Nat.le_refl _) _).alloc (by simp) _).mono hb0.size)
  have hs1 : w.heap.size ≤ W1.heap.size := by show _ ≤ ((w.alloc _).alloc _).heap.size; simp; omega
  have hsz1 : W1.heap.size = w.heap.size + 2 := by show ((w.alloc _).alloc _).heap.size = _; simp
  have hL1 : L < W1.heap.size := by rw [hsz1]; show w.heap.size + 1 < _; omega
  have hD1 : D < W1.heap.size := by rw [hsz1]; show w.heap.size < _; omega
  refine ⟨L, [{ target := .collected D, args := #[] }], W1, { target := .fn (.func gf) lb, args := #[.func (.yield L) #[] #[]] }, W1, gf, #[.func (.yield L) #[] #[]] ++ lb, W1, run_enterLoop_outer _ _ _ _ _, ?_, ?_, ?_, fun _ => h1, ?_⟩
  · simp only [resolve, hg]
    simp [go_sem]
  · intro f' hf'; simp [Target.leads] at hf'; subst hf'; exact hFg
  · simp [invoke, go_sem, eg]
  refine (hseq L (fun pre W => I pre W ∧ Book L D (rec_ .ready none) W) (fun pre W => ∃ c, Ix c pre W ∧ Book L D (rec_ .done (some c)) W) W1 hb1 ?_ ?_ ?_ ?_ ?_ ⟨hI1, hbk1⟩).mono ?_
  · exact fun s X Y row hs hgr hr => ⟨hI s X Y row hs.1 hgr (fun q e => by obtain ⟨hq, o, ho, hw⟩ := hr q e; exact ⟨Nat.le_trans hs1 hq, o, ho, hw⟩), book_from hL1 hD1 hs.2 hgr (fun q e => (hr q e).1)⟩
  · rintro s X Y row ⟨c, hc, hk⟩ hgr hr
    exact ⟨c, hIx c s X Y row hc hgr (fun q e => by obtain ⟨hq, o, ho, hw⟩ := hr q e; exact ⟨Nat.le_trans hs1 hq, o, ho, hw⟩), book_from hL1 hD1 hk hgr (fun q e => (hr q e).1)⟩
  · exact fun s X Y k hs hz hgr => ⟨hIB s X Y k hs.1 hz hgr, book_by (hZ k X hz) hs.2 hgr⟩
  · rintro s X Y k ⟨c, hc, hk⟩ hz hgr
    exact ⟨c, hIxB c s X Y k hc hz hgr, book_by (hZ k X hz) hk hgr⟩
  · -- a round
    rintro pre x W ⟨hi, hbk⟩ hlen
    have hy := run_yield (P := P) (args := encs x) hbk.1 (hps x)
    refine ⟨fn, _, assign, body, hy, roundIn_of_wpIn hfn (hassign _ pre x W _ hi ?_)⟩
    intro a' Wa hkf hkp hia hax
    have hbka : Book L D (rec_ .ready none) Wa := ⟨hkf.same _ _ (Nat.le_succ _) hbk.1 rfl, hkf.same _ _ (Nat.le_refl _) hbk.2 rfl⟩
    refine ⟨_, run_beginRound hbka.1 rfl, ?_⟩
    have hbk2 : Book L D { rec_ .ready none with state := .busy } (Wa.putObj L (.loop { rec_ .ready none with state := .busy })) := book_turn hDL hbka
    have hw2 : Kp Wa (Wa.putObj L (.loop { rec_ .ready none with state := .busy })) := hKb _ _ _ hbka.1 rfl rfl
    refine wpIn_mono (hbody L pre x a' _ (Nat.le_succ _) ⟨_, hbk2.1⟩ (hI.putObj _ hia (Nat.le_succ _) hbka.1 rfl) ((hAx x a').putObj (s := ()) _ hax (Nat.le_succ _) hbka.1 rfl) hlen) ?_
    have fin : ∀ W3 : World, KeepsFrom w.heap.size (Wa.putObj L (.loop { rec_ .ready none with state := .busy })) W3 → Book L D { rec_ .ready none with state := .busy } W3 := fun W3 hk3 =>
      ⟨hk3.same _ _ (Nat.le_succ _) hbk2.1 rfl, hk3.same _ _ (Nat.le_refl _) hbk2.2 rfl⟩
    have out : ∀ (c : Code) (W3 : World), KeepsFrom w.heap.size (Wa.putObj L (.loop { rec_ .ready none with state := .busy })) W3 → Kp (Wa.putObj L (.loop { rec_ .ready none with state := .busy })) W3 → Ix c (pre ++ [x]) W3 →
        ∃ v W', (Instr.endRound L (some c)).run P W3 = .ok v W' ∧ ((Ending.returned v = .returned (.bool true) ∧ (I (pre ++ [x]) W' ∧ Book L D (rec_ .ready none) W') ∧ Kp W W') ∨ (Ending.returned v = .returned (.bool false) ∧ (∃ c', Ix c' (pre ++ [x]) W' ∧ Book L D (rec_ .done (some c')) W') ∧ Kp W W')) := fun c W3 hk3 hkp3 hi3 => by
      have hb3 := fin W3 hk3
      exact ⟨_, _, run_endRound (some c) hb3.1, .inr ⟨rfl, ⟨c, (hIx c).putObj _ hi3 (Nat.le_succ _) hb3.1 rfl, book_turn hDL hb3⟩, hKt hkp (hKt (hKt hw2 hkp3) (hKb _ _ _ hb3.1 rfl rfl))⟩⟩
    rintro e a3 W3 hp
    cases e with
    | normal =>
      obtain ⟨hk3, hkp3, hi3⟩ := hp
      have hb3 := fin W3 hk3
      exact ⟨_, _, run_endRound none hb3.1, .inl ⟨rfl, ⟨hI.putObj _ hi3 (Nat.le_succ _) hb3.1 rfl, book_turn hDL hb3⟩, hKt hkp (hKt (hKt hw2 hkp3) (hKb _ _ _ hb3.1 rfl rfl))⟩⟩
    | ret => exact out _ _ hp.1 hp.2.1 hp.2.2
    | exit id => exact out _ _ hp.1 hp.2.1 hp.2.2
    | goto t => exact out _ _ hp.1 hp.2.1 hp.2.2
    | panic ch => exact hp.elim
    | outgrown => exact hp.elim
  · -- behind the last one
    rintro e W2 ⟨⟨v, rfl⟩, (⟨xs, hS, hi, hbk⟩ | ⟨pre, hSp, c, hi, hbk⟩)⟩
    · exact ⟨none, _, run_endLoop (P := P) hbk.1 (by simp [rec_]), hdone D xs _ (Nat.le_refl _) hS (hI.putObj _ hi (Nat.le_succ _) hbk.1 rfl) ((World.putObj_heap_other hDL).trans hbk.2)⟩
    · exact ⟨some c, _, run_endLoop (P := P) hbk.1 (by simp [rec_]), hstop D c pre _ (Nat.le_refl _) hSp ((hIx c).putObj _ hi (Nat.le_succ _) hbk.1 rfl) ((World.putObj_heap_other hDL).trans hbk.2)⟩
def BookN (L : Nat) (r : Loop) (W : World) : Prop := W.heap[L]? = some (.loop r)
theorem bookN_by {L k : Nat} {r : Loop} {W W' : World} (hk : ∃ o : Obj, W.heap[k]? = some o ∧ o.isCells = true) (h : BookN L r W) (hg : W.grownBy W' (some k)) : BookN L r W' := by
  obtain ⟨o, ho, hc⟩ := hk
  have h' : W.heap[L]? = some (.loop r) := h
  refine (hg.block L (Array.getElem?_eq_some_iff.1 h').1 (fun e => ?_)).trans h
  obtain rfl := Option.some.inj e
  rw [h'] at ho
  obtain rfl := Option.some.inj ho
  cases hc
theorem bookN_from {L m : Nat} {r : Loop} {W W' : World} {row : Option Nat} (hL : L < m) (h : BookN L r W) (hg : W.grownBy W' row) (hr : ∀ q, row = some q → m ≤ q) : BookN L r W' :=
  (hg.block L (Array.getElem?_eq_some_iff.1 h).1 (fun e => by have := hr L e.symm; omega)).trans h
theorem bookN_turn {L : Nat} {r r' : Loop} {W : World} (h : BookN L r W) : BookN L r' (W.putObj L (.loop r')) := World.putObj_heap_same (Array.getElem?_eq_some_iff.1 h).1
theorem wpIn_rangeFunc_ownZN {F : Fence} {n : Nat} {P : Program} {w : World} {α : Type} {g : Operand} {ps : Array Tmp} {assign body : Code} {Q : Exit → Act → World → Prop} {a : Act}
    {l₀ : Nat} {r₀ : Loop} (hro : F.round = some l₀) (hl₀ : w.heap[l₀]? = some (.loop r₀)) (h1 : 1 ≤ n) {gf : Nat} {lb : Array Value} (hg : a.eval g = .func (.func gf) #[] lb) (hFg : F.fn gf) (eg : ∀ args w, (callFunc gf args).run P w = .ok (.enter gf args) w)
    {encs : α → Array Value} {Kp : World → World → Prop} {S Sp : List α → Prop} {N : Nat} {w0 : World} {Z : Nat → World → Prop} (hseq : SeqStopsZ F (n - 1) P gf lb encs Kp S Sp N w0 Z) (hZ : ∀ k X, Z k X → ∃ o : Obj, X.heap[k]? = some o ∧ o.isCells = true)
    (hKt : ∀ {A B C : World}, Kp A B → Kp B C → Kp A C) (hKb : ∀ (W : World) (o o' : Obj), W.heap[w.heap.size]? = some o → o.isCells = false → o.isWalk = false → Kp W (W.putObj (w.heap.size) o')) (hb0 : Below w0.heap.size w0 w) (hps : ∀ x, (encs x).size = ps.size)
    (I : List α → World → Prop) (Ix : Code → List α → World → Prop) (hI : OwnFrom w.heap.size I) (hIx : ∀ c, OwnFrom w.heap.size (Ix c)) (hIB : AbidesBy Z I) (hIxB : ∀ c, AbidesBy Z (Ix c)) (h0 : I [] w) (Ax : α → Act → World → Prop) (hAx : ∀ x a', OwnFrom w.heap.size (fun (_ : Unit) W => Ax x a' W))
    (hassign : ∀ (l : Nat) (pre : List α) (x : α) (W : World) (K : Act → World → Prop), I pre W → (∀ a' W', KeepsFrom w.heap.size W W' → Kp W W' → I pre W' → Ax x a' W' → K a' W') →
      assign.wpIn (F.inRound l) (n - 1 - 1) P (Exit.then K (fun _ _ _ => False)) { tmps := (ps.zip (encs x)).foldl (fun t (p, v) => t.setIfInBounds p v) a.tmps, defers := [] } W)
    (hbody : ∀ (l : Nat) (pre : List α) (x : α) (a' : Act) (W : World), w.heap.size ≤ l → (∃ r, W.heap[l]? = some (.loop r)) → I pre W → Ax x a' W → pre.length < N → body.wpIn (F.inRound l) (n - 1 - 1) P (ownPostZ w.heap.size Kp I Ix (pre ++ [x]) W) a' W)
    (hdone : ∀ (xs : List α) (W : World), S xs → I xs W → Q .normal a W)
    (hstop : ∀ (c : Code) (pre : List α) (W : World), Sp pre → Ix c pre W → c.wpIn F n P Q a W) :
    (Code.rangeFunc g ps assign body).wpIn F n P Q a w := by
  refine wpIn_rangeFunc fun fn hfn => ?_
  rw [hro]
  -- what is laid ahead of the first round
  let L := w.heap.size
  let rec_ : LoopState → Option Code → Loop := fun st pe => { state := st, pending := pe, fn, tmps := a.tmps, params := ps, assign, body, defers := r₀.defers }
  let W1 := w.alloc (.loop (rec_ .ready none))
  have hbk1 : BookN L (rec_ .ready none) W1 := World.alloc_heap_new w _
  have hI1 : I [] W1 := hI.alloc _ h0
  have hb1 : Below w0.heap.size w0 W1 := hb0.trans (((Below.refl _ w).alloc (Nat.le_refl _) _).mono hb0.size)
  have hs1 : w.heap.size ≤ W1.heap.size := by show _ ≤ (w.alloc _).heap.size; simp
  have hL1 : L < W1.heap.size := by show w.heap.size < (w.alloc _).heap.size; simp
  refine ⟨L, [], W1, { target := .fn (.func gf) lb, args := #[.func (.yield L) #[] #[]] }, W1, gf, #[.func (.yield L) #[] #[]] ++ lb, W1, run_enterLoop_inner hl₀ _ _ _ _ _, ?_, ?_, ?_, fun _ => h1, ?_⟩
  · simp only [resolve, hg]
    simp [go_sem]
  · intro f' hf'; simp [Target.leads] at hf'; subst hf'; exact hFg
  · simp [invoke, go_sem, eg]
  refine (hseq L (fun pre W => I pre W ∧ BookN L (rec_ .ready none) W) (fun pre W => ∃ c, Ix c pre W ∧ BookN L (rec_ .done (some c)) W) W1 hb1 ?_ ?_ ?_ ?_ ?_ ⟨hI1, hbk1⟩).mono ?_
  · exact fun s X Y row hs hgr hr => ⟨hI s X Y row hs.1 hgr (fun q e => by obtain ⟨hq, o, ho, hw⟩ := hr q e; exact ⟨Nat.le_trans hs1 hq, o, ho, hw⟩), bookN_from hL1 hs.2 hgr (fun q e => (hr q e).1)⟩
  · rintro s X Y row ⟨c, hc, hk⟩ hgr hr
    exact ⟨c, hIx c s X Y row hc hgr (fun q e => by obtain ⟨hq, o, ho, hw⟩ := hr q e; exact ⟨Nat.le_trans hs1 hq, o, ho, hw⟩), bookN_from hL1 hk hgr (fun q e => (hr q e).1)⟩
  · exact fun s X Y k hs hz hgr => ⟨hIB s X Y k hs.1 hz hgr, bookN_by (hZ k X hz) hs.2 hgr⟩
  · rintro s X Y k ⟨c, hc, hk⟩ hz hgr
    exact ⟨c, hIxB c s X Y k hc hz hgr, bookN_by (hZ k X hz) hk hgr⟩
  · -- a round
    rintro pre x W ⟨hi, hbk⟩ hlen
    have hy := run_yield (P := P) (args := encs x) hbk (hps x)
    refine ⟨fn, _, assign, body, hy, roundIn_of_wpIn hfn (hassign _ pre x W _ hi ?_)⟩
    intro a' Wa hkf hkp hia hax
    have hbka : BookN L (rec_ .ready none) Wa := hkf.same _ _ (Nat.le_refl _) hbk rfl
    refine ⟨_, run_beginRound hbka rfl, ?_⟩
    have hbk2 : BookN L { rec_ .ready none with state := .busy } (Wa.putObj L (.loop { rec_ .ready none with state := .busy })) := bookN_turn hbka
    have hw2 : Kp Wa (Wa.putObj L (.loop { rec_ .ready none with state := .busy })) := hKb _ _ _ hbka rfl rfl
    refine wpIn_mono (hbody L pre x a' _ (Nat.le_refl _) ⟨_, hbk2⟩ (hI.putObj _ hia (Nat.le_refl _) hbka rfl) ((hAx x a').putObj (s := ()) _ hax (Nat.le_refl _) hbka rfl) hlen) ?_
    have fin : ∀ W3 : World, KeepsFrom w.heap.size (Wa.putObj L (.loop { rec_ .ready none with state := .busy })) W3 → BookN L { rec_ .ready none with state := .busy } W3 := fun W3 hk3 =>
      hk3.same _ _ (Nat.le_refl _) hbk2 rfl
    have out : ∀ (c : Code) (W3 : World), KeepsFrom w.heap.size (Wa.putObj L (.loop { rec_ .ready none with state := .busy })) W3 → Kp (Wa.putObj L (.loop { rec_ .ready none with state := .busy })) W3 → Ix c (pre ++ [x]) W3 →
        ∃ v W', (Instr.endRound L (some c)).run P W3 = .ok v W' ∧ ((Ending.returned v = .returned (.bool true) ∧ (I (pre ++ [x]) W' ∧ BookN L (rec_ .ready none) W') ∧ Kp W W') ∨ (Ending.returned v = .returned (.bool false) ∧ (∃ c', Ix c' (pre ++ [x]) W' ∧ BookN L (rec_ .done (some c')) W') ∧ Kp W W')) := fun c W3 hk3 hkp3 hi3 => by
      have hb3 := fin W3 hk3
      exact ⟨_, _, run_endRound (some c) hb3, .inr ⟨rfl, ⟨c, (hIx c).putObj _ hi3 (Nat.le_refl _) hb3 rfl, bookN_turn hb3⟩, hKt hkp (hKt (hKt hw2 hkp3) (hKb _ _ _ hb3 rfl rfl))⟩⟩
    rintro e a3 W3 hp
    cases e with
    | normal =>
      obtain ⟨hk3, hkp3, hi3⟩ := hp
      have hb3 := fin W3 hk3
      exact ⟨_, _, run_endRound none hb3, .inl ⟨rfl, ⟨hI.putObj _ hi3 (Nat.le_refl _) hb3 rfl, bookN_turn hb3⟩, hKt hkp (hKt (hKt hw2 hkp3) (hKb _ _ _ hb3 rfl rfl))⟩⟩
    | ret => exact out _ _ hp.1 hp.2.1 hp.2.2
    | exit id => exact out _ _ hp.1 hp.2.1 hp.2.2
    | goto t => exact out _ _ hp.1 hp.2.1 hp.2.2
    | panic ch => exact hp.elim
    | outgrown => exact hp.elim
  · -- behind the last one
    rintro e W2 ⟨⟨v, rfl⟩, (⟨xs, hS, hi, hbk⟩ | ⟨pre, hSp, c, hi, hbk⟩)⟩
    · exact ⟨none, _, run_endLoop (P := P) hbk (by simp [rec_]), hdone xs _ hS (hI.putObj _ hi (Nat.le_refl _) hbk rfl)⟩
    · exact ⟨some c, _, run_endLoop (P := P) hbk (by simp [rec_]), hstop c pre _ hSp ((hIx c).putObj _ hi (Nat.le_refl _) hbk rfl)⟩
theorem own_below {β : Type} {B : Nat} {J : β → World → Prop} (hJ : OwnFrom B J) {s : β} {W W' : World} (hs : J s W) (h : Below W.heap.size W W') : J s W' := hJ s W W' none hs (grown_of_below h) (fun r e => by cases e)
theorem own_from {β : Type} {B B' : Nat} {J : β → World → Prop} (hJ : OwnFrom B J) (h : B ≤ B') : OwnFrom B' J := fun s W W' row hs hg hr => hJ s W W' row hs hg (fun q e => by obtain ⟨h1, h2⟩ := hr q e; exact ⟨Nat.le_trans h h1, h2⟩)
theorem cells_own {β : Type} (B g : Nat) (t : TypeId) (f : β → Array Value) : OwnFrom B (fun s W => W.heap[g]? = some (.cells (f s) t (0, 0))) := fun s X Y row hs hg hr =>
  (hg.block g (Array.getElem?_eq_some_iff.1 hs).1 (fun e => by
    obtain ⟨_, o, ho, hc⟩ := hr g e.symm
    have hs' : X.heap[g]? = some (.cells (f s) t (0, 0)) := hs
    rw [hs'] at ho
    obtain rfl := Option.some.inj ho
    cases hc)).trans hs
end Go.Proofs.YtpicbjcpdngmlaaMy
