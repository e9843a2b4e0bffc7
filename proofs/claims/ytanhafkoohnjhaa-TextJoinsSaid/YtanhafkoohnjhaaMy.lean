/- Own words over the kit's: lemmas that the contracts of this seat use. -/
import Derived.WalkSpells
import Derived.WalkMore
import Derived.Deep.MidRow
import Derived.Lib.LazyBuf
import Derived.Shelf.Abstract
import Derived.Lib.SlBytesConst
import Derived.Great.BuildSlice
import Derived.RangeFuncNested
import Derived.RangeFuncLeaves
import Derived.OwnWalkIn
import Derived.TacticsInMore
import Derived.LoopNIn
import Derived.LoopIn
import Derived.ScopeJumps
import Derived.Laws.EntriesVeiled
import Derived.Test.YtanhafkoohnjhaaProg
import Derived.Below
import Derived.Deep.Draws
import Derived.Deep.AppendLies
import Derived.Maps.AppendAt
import Derived.OwnWalk
import Derived.Laws.BytesArg
import Derived.Laws.MakeOwn
import Derived.Laws.OwnMore
import Derived.Deep.OwnRows
import Derived.Tactics
import Derived.Lib.ConvBytes
import Derived.Laws.Slices
import Derived.WalkKit
import Derived.KernelRfl
import Derived.RowKit3
import Derived.Deep.LoopGhost
import Derived.Deep.QuietTactic
import Derived.BigQuiet
import Derived.WideLaws
import Derived.Deep.DeepCutAuto
import Derived.Deep.CutBlock
import Derived.Deep.RegionHeld3
import Derived.Laws.Rows
import Derived.Lib.AppendStr
import Derived.ArgAppend
import Derived.Laws.IdiomCopy
import Derived.OrdersHeld
import Derived.Laws.BitsLemmas
import Derived.RowKit
import Derived.Test.YtanhafkoohnjhaaWWords
import Derived.Test.YtanhafkoohnjhaaWLast
import Derived.Test.YtanhafkoohnjhaaWTab
import Derived.Test.YtanhafkoohnjhaaWFour
import Derived.Test.YtanhafkoohnjhaaWQPut
import Derived.Test.YtanhafkoohnjhaaWApart
import Derived.Test.YtanhafkoohnjhaaWArr
import Derived.Test.YtanhafkoohnjhaaWZeros
import Derived.Test.YtanhafkoohnjhaaWFoot
import Derived.Test.YtanhafkoohnjhaaWKept
import Derived.Test.YtanhafkoohnjhaaWShare
import Derived.Test.YtanhafkoohnjhaaWN
import Derived.Test.YtanhafkoohnjhaaWFootNe
import Derived.Test.YtanhafkoohnjhaaWAt
import Derived.Test.YtanhafkoohnjhaaWEqStruct
import Derived.Test.YtanhafkoohnjhaaWRepsOne
import Derived.Test.YtanhafkoohnjhaaWInv
import Derived.Test.YtanhafkoohnjhaaWInvWords
import Derived.Test.YtanhafkoohnjhaaWGuard
import Derived.Test.YtanhafkoohnjhaaWNEv
import Derived.Test.YtanhafkoohnjhaaWMore
namespace Go.Proofs.YtanhafkoohnjhaaMy
end Go.Proofs.YtanhafkoohnjhaaMy
namespace Go.Proofs.YtanhafkoohnjhaaMy
open Go.RowKit Go.Proofs.YtanhafkoohnjhaaW.PrintWords
def PredK {α : Type} (P : Program) (g : Nat) (lb : Array Value) (mk : List Value → Value) (d : Kd α) (p : α → Bool) (w : World) (xs : List α) : Prop :=
  ∀ x ∈ xs, ∀ (W : World) (cs : List Value), Below w.heap.size w W → d.K W x cs → Calls P g (#[mk cs] ++ lb) W fun e w' => e = .returned (.bool (p x)) ∧ Below W.heap.size W w'
def one1 (cs : List Value) : Value := cs.headD undef
def agg1 (cs : List Value) : Value := .agg cs.toArray
def idxOf {α : Type} (p : α → Bool) (l : List α) : Int := match l.findIdx? p with | some i => (i : Int) | none => -1
theorem idxOf_hit {α : Type} {p : α → Bool} {l : List α} {k : Nat} (hk : k < l.length) (h0 : ∀ x ∈ l.take k, p x = false) (h1 : p l[k] = true) : idxOf p l = k := by
  unfold idxOf
  have : l.findIdx? p = some k := by
    rw [List.findIdx?_eq_some_iff_getElem]
    refine ⟨hk, h1, fun j hj => ?_⟩
    have := h0 l[j] (by
      rw [List.mem_take_iff_getElem]
      exact ⟨j, by omega, rfl⟩)
    simp [this]
  rw [this]
theorem idxOf_none {α : Type} {p : α → Bool} {l : List α} (h : ∀ x ∈ l, p x = false) : idxOf p l = -1 := by
  unfold idxOf
  rw [List.findIdx?_eq_none_iff.2 h]
theorem idxOf_any {α : Type} (p : α → Bool) (l : List α) : decide (0 ≤ idxOf p l) = l.any p := by
  unfold idxOf
  cases h : l.findIdx? p with
  | none =>
    rw [List.findIdx?_eq_none_iff] at h
    have : l.any p = false := by rw [List.any_eq_false]; intro x hx; simp [h x hx]
    rw [this]; rfl
  | some i =>
    have h' := List.findIdx?_eq_some_iff_getElem.1 h
    obtain ⟨hi, hp, _⟩ := h'
    have : l.any p = true := List.any_eq_true.2 ⟨l[i], List.getElem_mem hi, hp⟩
    rw [this]
    simp
theorem C_elem {α : Type} {d : Kd α} {w : World} {A : Option Addr} {xs : List α} (h : d.C w A xs.length xs) (i : Nat) (hi : i < xs.length) :
    ∃ ad c, A = some ad ∧ c.length = d.sz ∧ d.K w xs[i] c ∧ ∀ j u, c[j]? = some u → w.cell? (ad.add (i * d.sz + j)) = some u := by
  obtain ⟨ad, c, h1, h2, h3, h4⟩ := Kd.C_get h xs[i] (i : Int) (by omega) (by omega)
  rw [Int.toNat_natCast] at h3 h4
  rw [List.getD_eq_getElem?_getD, List.getElem?_eq_getElem hi, Option.getD_some] at h3
  exact ⟨ad, c, h1, h2, h3, h4⟩
end Go.Proofs.YtanhafkoohnjhaaMy
namespace Go.Proofs.YtanhafkoohnjhaaMy
open Go.RowKit Go.Proofs.YtanhafkoohnjhaaW.PrintWords
theorem cell_add1 {w : World} {ad : Addr} {m j : Nat} {u : Value} (hj : 0 < j) (h : w.cell? (ad.add (m + j)) = some u) : w.cell? ⟨(ad.add m).block, (ad.add m).off + j, none⟩ = some u := by
  have e : (⟨(ad.add m).block, (ad.add m).off + j, none⟩ : Addr) = ad.add (m + j) := by
    unfold Addr.add
    rw [if_neg (show ¬ (m + j = 0) by omega)]
    split
    · rename_i h0
      subst h0
      simp
    · simp [Nat.add_assoc]
  rw [e]
  exact h
end Go.Proofs.YtanhafkoohnjhaaMy
namespace Go.Proofs.YtanhafkoohnjhaaMy
open Go.RowKit Go.Proofs.YtanhafkoohnjhaaW.PrintWords
end Go.Proofs.YtanhafkoohnjhaaMy
namespace Go.Proofs.YtanhafkoohnjhaaMy
open Go.RowKit Go.Proofs.YtanhafkoohnjhaaW.PrintWords
def inR (a b : Int) (l : List Int) : Bool := !(l.any fun n => decide (n < a) || decide (n > b))
theorem setCells_row (cs : List Value) : ∀ (o : Nat) (pre : List Value) (w : World) (old : List Value) (g : Nat) (t : TypeId), pre.length = o → old.length = cs.length → w.heap[g]? = some (.cells (pre ++ old).toArray t (0, 0)) →
    (w.setCells g o cs).heap[g]? = some (.cells (pre ++ cs).toArray t (0, 0)) ∧ (∀ k, k ≠ g → (w.setCells g o cs).heap[k]? = w.heap[k]?) := by
  induction cs with
  | nil =>
    intro o pre w old g t _ hl h
    have : old = [] := List.length_eq_zero_iff.1 hl
    subst this
    exact ⟨h, fun _ _ => rfl⟩
  | cons v cs ih =>
    intro o pre w old g t hp hl h
    match old, hl with
    | u :: old, hl =>
      have h1 := blk_put (cs' := ((pre ++ [v]) ++ old).toArray) h o v (by
        subst hp
        simp)
      obtain ⟨h2, h3⟩ := ih (o + 1) (pre ++ [v]) (w.setCell ⟨g, o, none⟩ v) old g t (by simp [hp]) (by simpa using hl) h1
      refine ⟨by rw [World.setCells]; simpa using h2, fun k hk => ?_⟩
      rw [World.setCells, h3 k hk]
      exact Below.heap_setCell w ⟨g, o, none⟩ v k hk
theorem below_setCells (cs : List Value) : ∀ (o : Nat) (w : World) (g b : Nat), b ≤ g → Below b w (w.setCells g o cs) := by
  induction cs with
  | nil => exact fun _ w _ b _ => Below.refl b w
  | cons v cs ih =>
    intro o w g b hb
    rw [World.setCells]
    exact ((Below.refl b w).setCell (p := ⟨g, o, none⟩) hb v).trans (ih (o + 1) _ g b hb)
theorem store_row_event {P : Program} {ops : Array Oper} {rest : List Oper} {o : Oper} {a : Act} {Q : Exit → Act → World → Prop} {W : World} {base : Nat} (hgd : o.guard = none) (hN : o.dst = none) (T : TypeId) (p x : Operand) (ho : o.op = .store T p x)
    {g : Nat} {t : TypeId} {cs cs' : Array Value} (hp : a.eval p = .pointer (some ⟨g, 0, none⟩)) (hx : a.eval x = .agg cs') (hg : W.heap[g]? = some (.cells cs t (0, 0))) (hi : (P.info? T).map (·.size) = some cs'.size) (hs : cs'.size = cs.size) (h1 : cs'.toList.all (·.oneCell') = true) (hb : base ≤ g)
    (h : ∀ w1, w1.heap[g]? = some (.cells cs' t (0, 0)) → (∀ k, k ≠ g → w1.heap[k]? = W.heap[k]?) → Below base W w1 → wpList P ops Q rest a w1) : wpList P ops Q (o :: rest) a W := by
  refine wpList_store_mid hgd T p x ho g 0 cs' hp hx ?_ hi (by simpa using h1) ?_
  · intro j hj
    rw [Nat.zero_add]
    refine ⟨?_, blk_frozen hg j⟩
    rw [blk_cell hg j, Array.getElem?_eq_getElem (by omega)]
    rfl
  · rw [hN]
    obtain ⟨h2, h3⟩ := setCells_row cs'.toList 0 [] W cs.toList g t rfl (by simpa using hs.symm) (by simpa using hg)
    exact h _ (by simpa using h2) h3 (below_setCells _ _ _ _ _ hb)
theorem odt {p : Prop} [Decidable p] (h : decide p = true := by first | (with_reducible assumption) | assumption) : p := of_decide_eq_true h
end Go.Proofs.YtanhafkoohnjhaaMy
namespace Go.Proofs.YtanhafkoohnjhaaMy
open Go.RowKit Go.Proofs.YtanhafkoohnjhaaW.PrintWords
theorem nil_at {W w1 : World} (e : Nat) (_ : Below W.heap.size W w1) : Kd.R (Kd.int .u8) e w1 W.heap.size (fun _ => True) (.slice none 0 0) [] := Kd.R_nil _ _ _ _ _
theorem lit_mark_event {P : Program} {ops : Array Oper} {rest : List Oper} {o1 o2 : Oper} {a : Act} {Q : Exit → Act → World → Prop} {W : World} {N M : Tmp} {T e : TypeId} (xs : List Int) (hg1 : o1.guard = none) (hd1 : o1.dst = some N) (hg2 : o2.guard = none) (hd2 : o2.dst = some M)
    (hrun : (execOp a.eval o1).run P W = .ok (.value (.slice (some ⟨W.heap.size, 0, none⟩) xs.length xs.length)) (W.alloc (.cells (nums .u8 xs).toArray e)))
    (ho2 : o2.op = .convert T T (.tmp N)) (ht : P.underlying T = some (.slice e)) (he : P.underlying e = some (.int .u8)) (hN : ∀ v, (a.put (some N) v).eval (.tmp N) = v) (hm : xs.length ≤ 9223372036854775807)
    (h : ∀ v w1, (∃ A c, v = .slice A xs.length c ∧ xs.length ≤ c ∧ Kd.C (Kd.int .u8) w1 A xs.length xs) → Below W.heap.size W w1 → wpList P ops Q rest ((a.put (some N) v).put (some M) v) w1) : wpList P ops Q (o1 :: o2 :: rest) a W := by
  refine Kd.event_run hg1 hrun ?_
  rw [hd1]
  refine Kd.event_run (v := .slice (some ⟨W.heap.size, 0, none⟩) xs.length xs.length) (w1 := W.alloc (.cells (nums .u8 xs).toArray e ((nums .u8 xs).toArray.size, (nums .u8 xs).toArray.size + 1))) hg2 ?_ ?_
  · have hr := Go.Lib.run_convert_bytes_const (P := P) W T e (nums .u8 xs).toArray xs.length xs.length ht he
    unfold execOp
    simp only [ho2, hN, Sem.run_bind, hr, Sem.run_pure, Result.andThen_ok]
  · rw [hd2]
    refine h _ _ ⟨_, _, rfl, Nat.le_refl _, ?_⟩ (below_alloc (Below.refl _ _) _)
    have h1 := own_lit W W.heap.size e .u8 xs (Nat.le_refl _) hm
    have h2 : Kd.R (Kd.int .u8) e (W.alloc (.cells (nums .u8 xs).toArray e)) W.heap.size (fun _ => True) (.slice (some ⟨W.heap.size, 0, none⟩) xs.length xs.length) xs := Kd.R_of_own h1 (fun _ _ => trivial)
    obtain ⟨A, c, he1, _, hC⟩ := Kd.R_reads h2
    injection he1 with he1 he2 he3
    subst he1
    have h3 := Kd.reads_of_C (h1 := fun _ => rfl) (d := 0) hC
    refine Kd.C_of_reads (h1 := fun _ => rfl) (d := 0) ⟨h3.1, h3.2.1, fun hn => ?_⟩
    obtain ⟨ad, ea, hc⟩ := h3.2.2 hn
    refine ⟨ad, ea, fun j hj => ?_⟩
    rw [← hc j hj]
    have e1 : ∀ fr, (W.alloc (.cells (nums .u8 xs).toArray e fr)).heap[W.heap.size]? = some (.cells (nums .u8 xs).toArray e fr) := fun fr => World.alloc_heap_new W _
    have hb : (ad.add j).block = W.heap.size := by
      injection ea with ea
      rw [← ea]
      unfold Addr.add
      split <;> rfl
    unfold World.cell?
    rw [hb, e1, e1]
end Go.Proofs.YtanhafkoohnjhaaMy
namespace Go.Proofs.YtanhafkoohnjhaaMy
open Go.RowKit Go.Proofs.YtanhafkoohnjhaaW.PrintWords
theorem flat_run {P : Program} {o : Oper} {a : Act} {W : World} {t : TypeId} {len : Nat} {parts : Array (Nat × Operand)} (e : TypeId) (k : IntKind) (zs : List Int) (ho : o.op = .buildSlice t len parts)
    (hu : P.underlying t = some (.slice e)) (hsz : (P.info? e).map (·.size) = some 1) (hz : ((P.info? e).bind (·.zero)).isSome = true)
    (hlen : len = zs.length) (hpos : 0 < len) (hsmall : len ≤ 2 ^ 24) (hparts : parts.toList = (zs.zipIdx 0).map fun x => (x.2, Operand.const (Value.int k x.1))) :
    (execOp a.eval o).run P W = .ok (.value (.slice (some ⟨W.heap.size, 0, none⟩) zs.length zs.length)) (W.alloc (.cells (nums k zs).toArray e)) := by
  cases hie : P.info? e with
  | none => simp [hie] at hsz
  | some ie =>
    simp only [hie, Option.map_some, Option.some.injEq, Option.bind_some] at hsz hz
    obtain ⟨z, hzz⟩ := Option.isSome_iff_exists.1 hz
    unfold execOp
    simp only [ho, Sem.run_bind, run_buildSlice W t e len _ _ ie z hu hie hzz (by rw [hsz]; omega) (by rw [hsz]; omega) (by rw [parts_eval a parts k zs hparts, hsz]; exact Great.fill_flat _ _ (fun v hv => by obtain ⟨n, _, rfl⟩ := List.mem_map.1 hv; rfl) (by simp [hlen])), Result.andThen_ok]
    subst hlen
    rfl
end Go.Proofs.YtanhafkoohnjhaaMy
namespace Go.Proofs.YtanhafkoohnjhaaMy
open Go.RowKit
theorem keeps_of_below {W W' : World} (h : Below W.heap.size W W') : KeepsOthers W W' :=
  ⟨h.size, fun k _ hk _ => (h.block k (Array.getElem?_eq_some_iff.1 hk).1).trans hk⟩
structure Open (F : Fence) : Prop where
  fn : ∀ f, F.fn f
  depth : F.depth = none
  eq : ∃ r, F = { Fence.wide with round := r }
theorem Open.deep {F : Fence} (h : Open F) {p : Prop} (hs : F.depth.isSome = true) : p := by rw [h.depth] at hs; cases hs
theorem open_wide : Open Fence.wide := ⟨fun _ => trivial, rfl, none, rfl⟩
theorem open_in {F : Fence} (h : Open F) (l : Nat) : Open (F.inRound l) := by
  obtain ⟨h1, h2, r, rfl⟩ := h
  exact ⟨h1, h2, some l, rfl⟩
theorem callsIn_open {F : Fence} (hF : Open F) {n : Nat} {P : Program} {f : FuncId} {args : Array Value} {w : World} {R : Ending → World → Prop} (h : Calls P f args w R) : CallsIn F n P f args w R := by
  obtain ⟨_, _, r, rfl⟩ := hF
  exact (callsIn_wide (n := n)).2 h
def noDefer (o : Oper) : Bool := match o.op with | .defer _ => false | _ => true
theorem noDefer_spec {o : Oper} (h : noDefer o = true) (c) : o.op ≠ .defer c := by
  intro e
  unfold noDefer at h
  rw [e] at h
  cases h
theorem opIn_of_op {F : Fence} (hF : Open F) {n : Nat} {P : Program} {o : Oper} {a : Act} {w : World} {next next' : Act → World → Prop} {Q Q' : Exit → Act → World → Prop} (hd : noDefer o = true) (hn : ∀ a w, next a w → next' a w) (hp : ∀ c a w, Q (.panic c) a w → Q' (.panic c) a w) (hl : LetsOut Q → LetsOut Q') (h : o.wp P a w next Q) : o.wpIn F n P a w next' Q' := by
  refine ⟨fun f _ => hF.fn f, ?_⟩
  rw [Oper.semAt_eq _ _ _ (noDefer_spec hd)]
  unfold Oper.wp at h
  generalize (execOp a.eval o).run P w = r at h
  cases r with
  | ok x w' =>
    cases x with
    | value v => exact hn _ _ h
    | skip => exact hn _ _ h
    | «defer» d => exact hn _ _ h
    | enter f args =>
      refine ⟨hF.deep, callsIn_open hF (Calls.mono (R := _) h fun e w' he => ?_)⟩
      cases e with
      | returned v => exact hn _ _ he
      | panicked c => exact hp _ _ _ he
      | outgrown => exact hl he
    | row row args =>
      refine ⟨hF.deep, ?_⟩
      obtain ⟨_, _, r, rfl⟩ := hF
      intro c cs _
      obtain ⟨v, w'', hr, hs⟩ := h c cs
      exact ⟨v, w'', hn _ _ hr, stepsIn_wide.2 hs⟩
    | _ => exact h.elim
  | halt hh w' =>
    cases hh with
    | panic v => exact hp _ _ _ h
    | _ => exact h.elim
theorem opsIn_of_ops {F : Fence} (hF : Open F) {n : Nat} {P : Program} {ops : Array Oper} {Q : Exit → Act → World → Prop} (hQ : ¬ LetsOut Q) (hd : ops.all noDefer = true) (l : List Nat) : ∀ (a : Act) (w : World), wpOps P ops Q l a w → wpOpsIn F n P ops Q l a w := by
  induction l with
  | nil => exact fun _ _ h => h
  | cons i rest ih =>
    intro a w h
    simp only [wpOps] at h
    simp only [wpOpsIn]
    cases ho : ops[i]? with
    | none => rw [ho] at h; exact ih a w h
    | some o =>
      rw [ho] at h
      simp only at h ⊢
      have hdo : noDefer o = true := by
        obtain ⟨hi, e⟩ := Array.getElem?_eq_some_iff.1 ho
        rw [← e]
        exact Array.all_eq_true.1 hd i hi
      by_cases hw : Region.wanted o (yielded ops a.tmps) = true
      · rw [if_pos hw] at h ⊢
        rcases h with h | h
        · exact opIn_of_op hF hdo (fun a w => ih a w) (fun _ _ _ h => h) (fun h => h) h
        · exact absurd h.2 hQ
      · rw [if_neg hw] at h ⊢
        exact ⟨fun f _ => hF.fn f, ih _ _ h⟩
theorem regionIn_draw {F : Fence} (hF : Open F) {n : Nat} {P : Program} {id : Nat} {ops : Array Oper} {Q : Exit → Act → World → Prop} {a : Act} {w : World} (hQ : ¬ LetsOut Q) (hd : ops.all noDefer = true) (hm : P.follows .mixedOrders = true)
    (h : wpAny P .any ops Q ops.size (Array.replicate ops.size false) a { w with drawn := w.drawn + 1 }) : (Code.region id ops true).wpIn F n P Q a w :=
  wpIn_region_draw fun t => by
    simp only [Region.schedule, hm, Bool.true_or, if_true]
    exact opsIn_of_ops hF hQ hd _ _ _ (wpAny_sound ops.size t _ a _ h)
theorem grown_of_below {W W' : World} (h : Below W.heap.size W W') : W.grownBy W' none := ⟨h.os, h.tape, h.output, h.size, fun k hk _ => h.block k hk⟩
theorem abides_below {β : Type} {B : Nat} {J : β → World → Prop} (hJ : AbidesFrom B J) {s : β} {W W' : World} (hs : J s W) (h : Below W.heap.size W W') : J s W' := hJ s W W' none hs (grown_of_below h) (fun r e => by cases e)
def KpB (n₀ B : Nat) (W W' : World) : Prop := Below n₀ W W' ∧ W'.heap[B]? = W.heap[B]?
def OneQ (F : Fence) (n : Nat) (P : Program) (ops : Array Oper) (Q : Exit → Act → World → Prop) (rest : List Oper) : Exit → Act → World → Prop := fun e a w => match e with | .normal => wpListIn F n P ops Q rest a w | e => Q e a w
end Go.Proofs.YtanhafkoohnjhaaMy
namespace Go.Proofs.YtanhafkoohnjhaaMy
open Go.RowKit Go.Proofs.YtanhafkoohnjhaaW.PrintWords
def AbidesAt {β : Type} (B : Nat) (J : β → World → Prop) : Prop := ∀ s W W', J s W → W.grownBy W' (some B) → J s W'
def SeqStopsB {α : Type} (F : Fence) (n : Nat) (P : Program) (g : Nat) (lb : Array Value) (encs : α → Array Value) (Kp : World → World → Prop) (S Sp : List α → Prop) (N : Nat) (w : World) (B : Nat) : Prop :=
  ∀ (l : Nat) (J Jx : List α → World → Prop) (W : World), Below w.heap.size w W → AbidesFrom W.heap.size J → AbidesAt B J → AbidesAt B Jx →
    (∀ pre x W1, J pre W1 → pre.length < N → YieldAt F (n - 1) P l (encs x) W1 fun e W' =>
      (e = .returned (.bool true) ∧ J (pre ++ [x]) W' ∧ Kp W1 W') ∨ (e = .returned (.bool false) ∧ Jx (pre ++ [x]) W')) →
    J [] W →
    CallsIn F n P g (#[.func (.yield l) #[] #[]] ++ lb) W fun e W' => (∃ v, e = .returned v) ∧ ((∃ xs, S xs ∧ J xs W') ∨ (∃ pre, Sp pre ∧ Jx pre W'))
def Book (L D : Nat) (r : Loop) (W : World) : Prop := W.heap[L]? = some (.loop r) ∧ W.heap[D]? = some (.deferred (some []))
theorem book_at {L D B : Nat} {r : Loop} (hL : L ≠ B) (hD : D ≠ B) {W W' : World} (h : Book L D r W) (hg : W.grownBy W' (some B)) : Book L D r W' :=
  ⟨(hg.block L (Array.getElem?_eq_some_iff.1 h.1).1 (fun e => hL (Option.some.inj e))).trans h.1, (hg.block D (Array.getElem?_eq_some_iff.1 h.2).1 (fun e => hD (Option.some.inj e))).trans h.2⟩
theorem book_walk {L D : Nat} {r : Loop} {W W' : World} {row : Option Nat} (h : Book L D r W) (hg : W.grownBy W' row) (hr : ∀ q, row = some q → ∃ o : Obj, W.heap[q]? = some o ∧ o.isWalk = true) : Book L D r W' :=
  ⟨(grownBy_keeps hg hr h.1 rfl).trans h.1, (grownBy_keeps hg hr h.2 rfl).trans h.2⟩
theorem book_turn {L D : Nat} {r r' : Loop} {W : World} (hne : D ≠ L) (h : Book L D r W) : Book L D r' (W.putObj L (.loop r')) :=
  ⟨World.putObj_heap_same (Array.getElem?_eq_some_iff.1 h.1).1, (World.putObj_heap_other hne).trans h.2⟩
theorem wpIn_rangeFunc_ownB {F : Fence} {n : Nat} {P : Program} {w : World} {α : Type} {g : Operand} {ps : Array Tmp} {assign body : Code} {Q : Exit → Act → World → Prop} {a : Act}
    (hro : F.round = none) (h1 : 1 ≤ n) {gf : Nat} {lb : Array Value} (hg : a.eval g = .func (.func gf) #[] lb) (hFg : F.fn gf) (eg : ∀ args w, (callFunc gf args).run P w = .ok (.enter gf args) w)
    {encs : α → Array Value} {Kp : World → World → Prop} {S Sp : List α → Prop} {N : Nat} {w0 : World} {B : Nat} (hseq : SeqStopsB F (n - 1) P gf lb encs Kp S Sp N w0 B) (hB : B < w.heap.size)
    (hKt : ∀ {A B C : World}, Kp A B → Kp B C → Kp A C) (hKb : ∀ (W : World) (l : Nat) (o o' : Obj), w.heap.size ≤ l → W.heap[l]? = some o → o.isCells = false → o.isWalk = false → Kp W (W.putObj l o')) (hb0 : Below w0.heap.size w0 w) (hps : ∀ x, (encs x).size = ps.size)
    (I : List α → World → Prop) (Ix : Code → List α → World → Prop) (hI : OwnFrom w.heap.size I) (hIx : ∀ c, OwnFrom w.heap.size (Ix c)) (hIB : AbidesAt B I) (hIxB : ∀ c, AbidesAt B (Ix c)) (h0 : I [] w) (Ax : α → Act → World → Prop) (hAx : ∀ x a', OwnFrom w.heap.size (fun (_ : Unit) W => Ax x a' W))
    (hassign : ∀ (l : Nat) (pre : List α) (x : α) (W : World) (K : Act → World → Prop), I pre W → (∀ a' W', KeepsFrom w.heap.size W W' → Kp W W' → I pre W' → Ax x a' W' → K a' W') →
      assign.wpIn (F.inRound l) (n - 1 - 1) P (Exit.then K (fun _ _ _ => False)) { tmps := (ps.zip (encs x)).foldl (fun t (p, v) => t.setIfInBounds p v) a.tmps, defers := [] } W)
    (hbody : ∀ (l : Nat) (pre : List α) (x : α) (a' : Act) (W : World), w.heap.size ≤ l → (∃ r, W.heap[l]? = some (.loop r)) → I pre W → Ax x a' W → pre.length < N → body.wpIn (F.inRound l) (n - 1 - 1) P (ownPostG w.heap.size Kp I Ix (pre ++ [x]) W) a' W)
    (hdone : ∀ (D : Nat) (xs : List α) (W : World), w.heap.size ≤ D → S xs → I xs W → W.heap[D]? = some (.deferred (some [])) → Q .normal { a with defers := { target := .collected D, args := #[] } :: a.defers } W)
    (hstop : ∀ (D : Nat) (c : Code) (pre : List α) (W : World), w.heap.size ≤ D → Sp pre → Ix c pre W → W.heap[D]? = some (.deferred (some [])) → c.wpIn F n P Q { a with defers := { target := .collected D, args := #[] } :: a.defers } W) :
    (Code.rangeFunc g ps assign body).wpIn F n P Q a w := by
  refine wpIn_rangeFunc fun fn hfn => ?_
  rw [hro]
  -- what is laid ahead of the first round
  let D := w.heap.size
  let L := w.heap.size + 1
  let rec_ : LoopState → Option Code → Loop := fun st pe => { state := st, pending := pe, fn, tmps := a.tmps, params := ps, assign, body, defers := D }
  let W1 := (w.alloc (.deferred (some []))).alloc (.loop (rec_ .ready none))
  have hDL : D ≠ L := Nat.ne_of_lt (Nat.lt_succ_self _)
  have hLB : L ≠ B := fun e => by have : w.heap.size + 1 = B := e; omega
  have hDB : D ≠ B := fun e => by have : w.heap.size = B := e; omega
  have hbk1 : Book L D (rec_ .ready none) W1 := by
    refine ⟨?_, (Below.heap_alloc _ _ _ (by show w.heap.size < (w.alloc _).heap.size; simp)).trans (World.alloc_heap_new w _)⟩
    have := World.alloc_heap_new (w.alloc (.deferred (some []))) (.loop (rec_ .ready none))
    rwa [World.size_alloc] at this
  have hI1 : I [] W1 := hI.alloc _ (hI.alloc _ h0)
  have hb1 : Below w0.heap.size w0 W1 := hb0.trans ((((Below.refl _ w).alloc (Nat.le_refl _) _).alloc (by simp) _).mono hb0.size)
  have hs1 : w.heap.size ≤ W1.heap.size := by show _ ≤ ((w.alloc _).alloc _).heap.size; simp; omega
  refine ⟨L, [{ target := .collected D, args := #[] }], W1, { target := .fn (.func gf) lb, args := #[.func (.yield L) #[] #[]] }, W1, gf, #[.func (.yield L) #[] #[]] ++ lb, W1, run_enterLoop_outer _ _ _ _ _, ?_, ?_, ?_, fun _ => h1, ?_⟩
  · simp only [resolve, hg]
    simp [go_sem]
  · intro f' hf'; simp [Target.leads] at hf'; subst hf'; exact hFg
  · simp [invoke, go_sem, eg]
  refine (hseq L (fun pre W => I pre W ∧ Book L D (rec_ .ready none) W) (fun pre W => ∃ c, Ix c pre W ∧ Book L D (rec_ .done (some c)) W) W1 hb1 ?_ ?_ ?_ ?_ ⟨hI1, hbk1⟩).mono ?_
  · exact fun s X Y row hs hgr hr => ⟨hI s X Y row hs.1 hgr (fun q e => by obtain ⟨hq, o, ho, hw⟩ := hr q e; exact ⟨Nat.le_trans hs1 hq, o, ho, Obj.not_cells_of_walk hw⟩), book_walk hs.2 hgr (fun q e => (hr q e).2)⟩
  · exact fun s X Y hs hgr => ⟨hIB s X Y hs.1 hgr, book_at hLB hDB hs.2 hgr⟩
  · rintro s X Y ⟨c, hc, hk⟩ hgr
    exact ⟨c, hIxB c s X Y hc hgr, book_at hLB hDB hk hgr⟩
  · -- a round
    rintro pre x W ⟨hi, hbk⟩ hlen
    have hy := run_yield (P := P) (args := encs x) hbk.1 (hps x)
    refine ⟨fn, _, assign, body, hy, roundIn_of_wpIn hfn (hassign _ pre x W _ hi ?_)⟩
    intro a' Wa hkf hkp hia hax
    have hbka : Book L D (rec_ .ready none) Wa := ⟨hkf.same _ _ (Nat.le_succ _) hbk.1 rfl, hkf.same _ _ (Nat.le_refl _) hbk.2 rfl⟩
    refine ⟨_, run_beginRound hbka.1 rfl, ?_⟩
    have hbk2 : Book L D { rec_ .ready none with state := .busy } (Wa.putObj L (.loop { rec_ .ready none with state := .busy })) := book_turn hDL hbka
    have hw2 : Kp Wa (Wa.putObj L (.loop { rec_ .ready none with state := .busy })) := hKb _ _ _ _ (Nat.le_succ _) hbka.1 rfl rfl
    refine wpIn_mono (hbody L pre x a' _ (Nat.le_succ _) ⟨_, hbk2.1⟩ (hI.putObj _ hia (Nat.le_succ _) hbka.1 rfl) ((hAx x a').putObj (s := ()) _ hax (Nat.le_succ _) hbka.1 rfl) hlen) ?_
    have fin : ∀ W3 : World, KeepsFrom w.heap.size (Wa.putObj L (.loop { rec_ .ready none with state := .busy })) W3 → Book L D { rec_ .ready none with state := .busy } W3 := fun W3 hk3 =>
      ⟨hk3.same _ _ (Nat.le_succ _) hbk2.1 rfl, hk3.same _ _ (Nat.le_refl _) hbk2.2 rfl⟩
    have out : ∀ (c : Code) (W3 : World), KeepsFrom w.heap.size (Wa.putObj L (.loop { rec_ .ready none with state := .busy })) W3 → Ix c (pre ++ [x]) W3 →
        ∃ v W', (Instr.endRound L (some c)).run P W3 = .ok v W' ∧ ((Ending.returned v = .returned (.bool true) ∧ (I (pre ++ [x]) W' ∧ Book L D (rec_ .ready none) W') ∧ Kp W W') ∨ (Ending.returned v = .returned (.bool false) ∧ ∃ c', Ix c' (pre ++ [x]) W' ∧ Book L D (rec_ .done (some c')) W')) := fun c W3 hk3 hi3 => by
      have hb3 := fin W3 hk3
      exact ⟨_, _, run_endRound (some c) hb3.1, .inr ⟨rfl, c, (hIx c).putObj _ hi3 (Nat.le_succ _) hb3.1 rfl, book_turn hDL hb3⟩⟩
    rintro e a3 W3 hp
    cases e with
    | normal =>
      obtain ⟨hk3, hkp3, hi3⟩ := hp
      have hb3 := fin W3 hk3
      exact ⟨_, _, run_endRound none hb3.1, .inl ⟨rfl, ⟨hI.putObj _ hi3 (Nat.le_succ _) hb3.1 rfl, book_turn hDL hb3⟩, hKt hkp (hKt (hKt hw2 hkp3) (hKb _ _ _ _ (Nat.le_succ _) hb3.1 rfl rfl))⟩⟩
    | ret => exact out _ _ hp.1 hp.2
    | exit id => exact out _ _ hp.1 hp.2
    | goto t => exact out _ _ hp.1 hp.2
    | panic ch => exact hp.elim
    | outgrown => exact hp.elim
  · -- behind the last one
    rintro e W2 ⟨⟨v, rfl⟩, (⟨xs, hS, hi, hbk⟩ | ⟨pre, hSp, c, hi, hbk⟩)⟩
    · exact ⟨none, _, run_endLoop (P := P) hbk.1 (by simp [rec_]), hdone D xs _ (Nat.le_refl _) hS (hI.putObj _ hi (Nat.le_succ _) hbk.1 rfl) ((World.putObj_heap_other hDL).trans hbk.2)⟩
    · exact ⟨some c, _, run_endLoop (P := P) hbk.1 (by simp [rec_]), hstop D c pre _ (Nat.le_refl _) hSp ((hIx c).putObj _ hi (Nat.le_succ _) hbk.1 rfl) ((World.putObj_heap_other hDL).trans hbk.2)⟩
theorem startIn_ {F : Fence} (hF : Open F) {n m : Nat} {P : Program} {id : Nat} {ops : Array Oper} {Q : Exit → Act → World → Prop} {S : World → Prop} {ds : List Nat} {a : Act} {w : World} (l : Array Bool) (hQ : ¬ LetsOut Q) (hd : ops.all noDefer = true) (hm : P.follows .mixedOrders = true) (hn : ops.size = m) (hl : Array.replicate m false = l) (hS : S w.drew)
    (h : S w.drew → YtanhafkoohnjhaaW.PrintLast.wpAnyLast P .any ops Q S ds m l a w.drew) : (Code.region id ops true).wpIn F n P Q a w := by
  subst hn
  subst hl
  exact regionIn_draw hF hQ hd hm (YtanhafkoohnjhaaW.PrintLast.wpAny_of_last _ _ _ _ (h hS))
theorem S_turn {α : Type} {d : Kd α} {e base : Nat} {ok : Nat → Prop} {v : Value} {xs : List α} {W W' : World} {row : Option Nat} (h : YtanhafkoohnjhaaW.PrintWords.Kd.S d e W base ok v xs) (hg : W.grownBy W' row) (hr : ∀ r, row = some r → ∃ o : Obj, W.heap[r]? = some o ∧ o.isCells = false) : YtanhafkoohnjhaaW.PrintWords.Kd.S d e W' base ok v xs :=
  Kd.S_mono (Kd.S_step (Kd.S_bound h) (fun k hk hl => hg.block k hl (fun e2 => by
    obtain ⟨_, _, _, q, _, cells, hc⟩ := hk
    obtain ⟨o, ho, hn⟩ := hr k e2.symm
    rw [hc] at ho
    obtain rfl := Option.some.inj ho
    cases hn))) (fun _ hk => hk.1)
end Go.Proofs.YtanhafkoohnjhaaMy
