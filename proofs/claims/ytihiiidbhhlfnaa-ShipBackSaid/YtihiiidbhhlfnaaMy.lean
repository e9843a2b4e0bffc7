/- Own words over the kit's: lemmas that the contracts of this seat use. -/
import Derived.WalkSpells
import Derived.WalkMore
import Derived.Deep.MidRow
import Derived.Lib.LazyBuf
import Derived.Shelf.Abstract
import Derived.Lib.SlBytesConst
import Derived.RangeFuncRecord
import Derived.Great.BuildSlice
import Derived.Defers
import Derived.Recover
import Derived.Test.YtihiiidbhhlfnaaProg
import Derived.Below
import Derived.Deep.Draws
import Derived.Deep.AppendLies
import Derived.Maps.AppendAt
import Derived.OwnWalk
import Derived.Laws.BytesArg
import Derived.Laws.MakeOwn
import Derived.Laws.OwnMore
import Derived.Deep.OwnRows
import Derived.Tactics
import Derived.Lib.ConvBytes
import Derived.Laws.Slices
import Derived.WalkKit
import Derived.KernelRfl
import Derived.RowKit3
import Derived.Deep.LoopGhost
import Derived.Deep.QuietTactic
import Derived.BigQuiet
import Derived.WideLaws
import Derived.Deep.DeepCutAuto
import Derived.Deep.CutBlock
import Derived.Deep.RegionHeld3
import Derived.Laws.Rows
import Derived.Lib.AppendStr
import Derived.ArgAppend
import Derived.Laws.IdiomCopy
import Derived.OrdersHeld
import Derived.Laws.BitsLemmas
import Derived.RowKit
import Derived.Test.YtihiiidbhhlfnaaWWords
import Derived.Test.YtihiiidbhhlfnaaWLast
import Derived.Test.YtihiiidbhhlfnaaWTab
import Derived.Test.YtihiiidbhhlfnaaWFour
import Derived.Test.YtihiiidbhhlfnaaWQPut
import Derived.Test.YtihiiidbhhlfnaaWApart
import Derived.Test.YtihiiidbhhlfnaaWArr
import Derived.Test.YtihiiidbhhlfnaaWZeros
import Derived.Test.YtihiiidbhhlfnaaWFoot
import Derived.Test.YtihiiidbhhlfnaaWKept
import Derived.Test.YtihiiidbhhlfnaaWShare
import Derived.Test.YtihiiidbhhlfnaaWN
import Derived.Test.YtihiiidbhhlfnaaWFootNe
import Derived.Test.YtihiiidbhhlfnaaWAt
import Derived.Test.YtihiiidbhhlfnaaWEqStruct
import Derived.Test.YtihiiidbhhlfnaaWRepsOne
import Derived.Test.YtihiiidbhhlfnaaWInv
import Derived.Test.YtihiiidbhhlfnaaWInvWords
import Derived.Test.YtihiiidbhhlfnaaWGuard
import Derived.Test.YtihiiidbhhlfnaaWNEv
import Derived.Test.YtihiiidbhhlfnaaWMore
namespace Go.Proofs.YtihiiidbhhlfnaaMy
end Go.Proofs.YtihiiidbhhlfnaaMy
namespace Go.Proofs.YtihiiidbhhlfnaaMy
open Go.RowKit Go.Proofs.YtihiiidbhhlfnaaW.PrintWords
def PredK {α : Type} (P : Program) (g : Nat) (lb : Array Value) (mk : List Value → Value) (d : Kd α) (p : α → Bool) (w : World) (xs : List α) : Prop :=
  ∀ x ∈ xs, ∀ (W : World) (cs : List Value), Below w.heap.size w W → d.K W x cs → Calls P g (#[mk cs] ++ lb) W fun e w' => e = .returned (.bool (p x)) ∧ Below W.heap.size W w'
def one1 (cs : List Value) : Value := cs.headD undef
def agg1 (cs : List Value) : Value := .agg cs.toArray
def idxOf {α : Type} (p : α → Bool) (l : List α) : Int := match l.findIdx? p with | some i => (i : Int) | none => -1
theorem idxOf_hit {α : Type} {p : α → Bool} {l : List α} {k : Nat} (hk : k < l.length) (h0 : ∀ x ∈ l.take k, p x = false) (h1 : p l[k] = true) : idxOf p l = k := by
  unfold idxOf
  have : l.findIdx? p = some k := by
    rw [List.findIdx?_eq_some_iff_getElem]
    refine ⟨hk, h1, fun j hj => ?_⟩
    have := h0 l[j] (by
      rw [List.mem_take_iff_getElem]
      exact ⟨j, by omega, rfl⟩)
    simp [this]
  rw [this]
theorem idxOf_none {α : Type} {p : α → Bool} {l : List α} (h : ∀ x ∈ l, p x = false) : idxOf p l = -1 := by
  unfold idxOf
  rw [List.findIdx?_eq_none_iff.2 h]
theorem idxOf_any {α : Type} (p : α → Bool) (l : List α) : decide (0 ≤ idxOf p l) = l.any p := by
  unfold idxOf
  cases h : l.findIdx? p with
  | none =>
    rw [List.findIdx?_eq_none_iff] at h
    have : l.any p = false := by rw [List.any_eq_false]; intro x hx; simp [h x hx]
    rw [this]; rfl
  | some i =>
    have h' := List.findIdx?_eq_some_iff_getElem.1 h
    obtain ⟨hi, hp, _⟩ := h'
    have : l.any p = true := List.any_eq_true.2 ⟨l[i], List.getElem_mem hi, hp⟩
    rw [this]
    simp
theorem C_elem {α : Type} {d : Kd α} {w : World} {A : Option Addr} {xs : List α} (h : d.C w A xs.length xs) (i : Nat) (hi : i < xs.length) :
    ∃ ad c, A = some ad ∧ c.length = d.sz ∧ d.K w xs[i] c ∧ ∀ j u, c[j]? = some u → w.cell? (ad.add (i * d.sz + j)) = some u := by
  obtain ⟨ad, c, h1, h2, h3, h4⟩ := Kd.C_get h xs[i] (i : Int) (by omega) (by omega)
  rw [Int.toNat_natCast] at h3 h4
  rw [List.getD_eq_getElem?_getD, List.getElem?_eq_getElem hi, Option.getD_some] at h3
  exact ⟨ad, c, h1, h2, h3, h4⟩
end Go.Proofs.YtihiiidbhhlfnaaMy
namespace Go.Proofs.YtihiiidbhhlfnaaMy
open Go.RowKit Go.Proofs.YtihiiidbhhlfnaaW.PrintWords
theorem cell_add1 {w : World} {ad : Addr} {m j : Nat} {u : Value} (hj : 0 < j) (h : w.cell? (ad.add (m + j)) = some u) : w.cell? ⟨(ad.add m).block, (ad.add m).off + j, none⟩ = some u := by
  have e : (⟨(ad.add m).block, (ad.add m).off + j, none⟩ : Addr) = ad.add (m + j) := by
    unfold Addr.add
    rw [if_neg (show ¬ (m + j = 0) by omega)]
    split
    · rename_i h0
      subst h0
      simp
    · simp [Nat.add_assoc]
  rw [e]
  exact h
theorem list2 {l : List Value} (h : l.length = 2) : ∃ a b, l = [a, b] := by
  match l, h with
  | [a, b], _ => exact ⟨a, b, rfl⟩
theorem list5 {l : List Value} (h : l.length = 5) : ∃ a b c d e, l = [a, b, c, d, e] := by
  match l, h with
  | [a, b, c, d, e], _ => exact ⟨a, b, c, d, e, rfl⟩
end Go.Proofs.YtihiiidbhhlfnaaMy
namespace Go.Proofs.YtihiiidbhhlfnaaMy
open Go.RowKit Go.Proofs.YtihiiidbhhlfnaaW.PrintWords
end Go.Proofs.YtihiiidbhhlfnaaMy
namespace Go.Proofs.YtihiiidbhhlfnaaMy
open Go.RowKit Go.Proofs.YtihiiidbhhlfnaaW.PrintWords
def inR (a b : Int) (l : List Int) : Bool := !(l.any fun n => decide (n < a) || decide (n > b))
theorem setCells_row (cs : List Value) : ∀ (o : Nat) (pre : List Value) (w : World) (old : List Value) (g : Nat) (t : TypeId), pre.length = o → old.length = cs.length → w.heap[g]? = some (.cells (pre ++ old).toArray t (0, 0)) →
    (w.setCells g o cs).heap[g]? = some (.cells (pre ++ cs).toArray t (0, 0)) ∧ (∀ k, k ≠ g → (w.setCells g o cs).heap[k]? = w.heap[k]?) := by
  induction cs with
  | nil =>
    intro o pre w old g t _ hl h
    have : old = [] := List.length_eq_zero_iff.1 hl
    subst this
    exact ⟨h, fun _ _ => rfl⟩
  | cons v cs ih =>
    intro o pre w old g t hp hl h
    match old, hl with
    | u :: old, hl =>
      have h1 := blk_put (cs' := ((pre ++ [v]) ++ old).toArray) h o v (by
        subst hp
        simp)
      obtain ⟨h2, h3⟩ := ih (o + 1) (pre ++ [v]) (w.setCell ⟨g, o, none⟩ v) old g t (by simp [hp]) (by simpa using hl) h1
      refine ⟨by rw [World.setCells]; simpa using h2, fun k hk => ?_⟩
      rw [World.setCells, h3 k hk]
      exact Below.heap_setCell w ⟨g, o, none⟩ v k hk
theorem below_setCells (cs : List Value) : ∀ (o : Nat) (w : World) (g b : Nat), b ≤ g → Below b w (w.setCells g o cs) := by
  induction cs with
  | nil => exact fun _ w _ b _ => Below.refl b w
  | cons v cs ih =>
    intro o w g b hb
    rw [World.setCells]
    exact ((Below.refl b w).setCell (p := ⟨g, o, none⟩) hb v).trans (ih (o + 1) _ g b hb)
theorem store_row_event {P : Program} {ops : Array Oper} {rest : List Oper} {o : Oper} {a : Act} {Q : Exit → Act → World → Prop} {W : World} {base : Nat} (hgd : o.guard = none) (hN : o.dst = none) (T : TypeId) (p x : Operand) (ho : o.op = .store T p x)
    {g : Nat} {t : TypeId} {cs cs' : Array Value} (hp : a.eval p = .pointer (some ⟨g, 0, none⟩)) (hx : a.eval x = .agg cs') (hg : W.heap[g]? = some (.cells cs t (0, 0))) (hi : (P.info? T).map (·.size) = some cs'.size) (hs : cs'.size = cs.size) (h1 : cs'.toList.all (·.oneCell') = true) (hb : base ≤ g)
    (h : ∀ w1, w1.heap[g]? = some (.cells cs' t (0, 0)) → (∀ k, k ≠ g → w1.heap[k]? = W.heap[k]?) → Below base W w1 → wpList P ops Q rest a w1) : wpList P ops Q (o :: rest) a W := by
  refine wpList_store_mid hgd T p x ho g 0 cs' hp hx ?_ hi (by simpa using h1) ?_
  · intro j hj
    rw [Nat.zero_add]
    refine ⟨?_, blk_frozen hg j⟩
    rw [blk_cell hg j, Array.getElem?_eq_getElem (by omega)]
    rfl
  · rw [hN]
    obtain ⟨h2, h3⟩ := setCells_row cs'.toList 0 [] W cs.toList g t rfl (by simpa using hs.symm) (by simpa using hg)
    exact h _ (by simpa using h2) h3 (below_setCells _ _ _ _ _ hb)
theorem odt {p : Prop} [Decidable p] (h : decide p = true := by first | (with_reducible assumption) | assumption) : p := of_decide_eq_true h
theorem load_row_event {P : Program} {ops : Array Oper} {rest : List Oper} {o : Oper} {a : Act} {w : World} {Q : Exit → Act → World → Prop} (hw : Region.wanted o (yielded ops a.tmps) = true) (ty : TypeId) (x : Operand) (ho : o.op = .load ty x)
    (g : Nat) (hx : a.eval x = .pointer (some ⟨g, 0, none⟩)) (t : TypeId) (cs : Array Value) (fr : Nat × Nat) (d : TypeDesc) (hg : w.heap[g]? = some (.cells cs t fr))
    (hu : P.underlying ty = some d) (hd : (match d with | .struct _ | .array _ _ => true | _ => false) = true) (hi : (P.info? ty).map (·.size) = some cs.size)
    (h : wpList P ops Q rest (a.put o.dst (.agg cs)) w) : wpList P ops Q (o :: rest) a w := by
  rw [wpList, if_pos hw]
  exact .inl (wp_load_row ty x ho g hx t cs fr d hg hu hd hi h)
end Go.Proofs.YtihiiidbhhlfnaaMy
namespace Go.Proofs.YtihiiidbhhlfnaaMy
open Go.RowKit Go.Proofs.YtihiiidbhhlfnaaW.PrintWords
theorem lit_mark_event2 {P : Program} {ops : Array Oper} {rest : List Oper} {o1 o2 : Oper} {a : Act} {Q : Exit → Act → World → Prop} {W : World} {N M : Tmp} {T e : TypeId} (xs : List Int) (hg1 : o1.guard = none) (hd1 : o1.dst = some N) (hg2 : o2.guard = none) (hd2 : o2.dst = some M)
    (hrun : (execOp a.eval o1).run P W = .ok (.value (.slice (some ⟨W.heap.size, 0, none⟩) xs.length xs.length)) (W.alloc (.cells (nums .u8 xs).toArray e)))
    (ho2 : o2.op = .convert T T (.tmp N)) (ht : P.underlying T = some (.slice e)) (he : P.underlying e = some (.int .u8)) (hN : ∀ v, (a.put (some N) v).eval (.tmp N) = v) (hm : xs.length ≤ 9223372036854775807)
    (h : ∀ v w1, (∃ A, v = .slice A xs.length xs.length ∧ Kd.C (Kd.int .u8) w1 A xs.length xs) → Below W.heap.size W w1 → wpList P ops Q rest ((a.put (some N) v).put (some M) v) w1) : wpList P ops Q (o1 :: o2 :: rest) a W := by
  refine Kd.event_run hg1 hrun ?_
  rw [hd1]
  refine Kd.event_run (v := .slice (some ⟨W.heap.size, 0, none⟩) xs.length xs.length) (w1 := W.alloc (.cells (nums .u8 xs).toArray e ((nums .u8 xs).toArray.size, (nums .u8 xs).toArray.size + 1))) hg2 ?_ ?_
  · have hr := Go.Lib.run_convert_bytes_const (P := P) W T e (nums .u8 xs).toArray xs.length xs.length ht he
    unfold execOp
    simp only [ho2, hN, Sem.run_bind, hr, Sem.run_pure, Result.andThen_ok]
  · rw [hd2]
    refine h _ _ ⟨_, rfl, ?_⟩ (below_alloc (Below.refl _ _) _)
    have h1 := own_lit W W.heap.size e .u8 xs (Nat.le_refl _) hm
    have h2 : Kd.R (Kd.int .u8) e (W.alloc (.cells (nums .u8 xs).toArray e)) W.heap.size (fun _ => True) (.slice (some ⟨W.heap.size, 0, none⟩) xs.length xs.length) xs := Kd.R_of_own h1 (fun _ _ => trivial)
    obtain ⟨A, c, he1, _, hC⟩ := Kd.R_reads h2
    injection he1 with he1 he2 he3
    subst he1
    have h3 := Kd.reads_of_C (h1 := fun _ => rfl) (d := 0) hC
    refine Kd.C_of_reads (h1 := fun _ => rfl) (d := 0) ⟨h3.1, h3.2.1, fun hn => ?_⟩
    obtain ⟨ad, ea, hc⟩ := h3.2.2 hn
    refine ⟨ad, ea, fun j hj => ?_⟩
    rw [← hc j hj]
    have e1 : ∀ fr, (W.alloc (.cells (nums .u8 xs).toArray e fr)).heap[W.heap.size]? = some (.cells (nums .u8 xs).toArray e fr) := fun fr => World.alloc_heap_new W _
    have hb : (ad.add j).block = W.heap.size := by
      injection ea with ea
      rw [← ea]
      unfold Addr.add
      split <;> rfl
    unfold World.cell?
    rw [hb, e1, e1]
end Go.Proofs.YtihiiidbhhlfnaaMy
namespace Go.Proofs.YtihiiidbhhlfnaaMy
open Go.RowKit Go.Proofs.YtihiiidbhhlfnaaW.PrintWords
theorem flat_run {P : Program} {o : Oper} {a : Act} {W : World} {t : TypeId} {len : Nat} {parts : Array (Nat × Operand)} (e : TypeId) (k : IntKind) (zs : List Int) (ho : o.op = .buildSlice t len parts)
    (hu : P.underlying t = some (.slice e)) (hsz : (P.info? e).map (·.size) = some 1) (hz : ((P.info? e).bind (·.zero)).isSome = true)
    (hlen : len = zs.length) (hpos : 0 < len) (hsmall : len ≤ 2 ^ 24) (hparts : parts.toList = (zs.zipIdx 0).map fun x => (x.2, Operand.const (Value.int k x.1))) :
    (execOp a.eval o).run P W = .ok (.value (.slice (some ⟨W.heap.size, 0, none⟩) zs.length zs.length)) (W.alloc (.cells (nums k zs).toArray e)) := by
  cases hie : P.info? e with
  | none => simp [hie] at hsz
  | some ie =>
    simp only [hie, Option.map_some, Option.some.injEq, Option.bind_some] at hsz hz
    obtain ⟨z, hzz⟩ := Option.isSome_iff_exists.1 hz
    unfold execOp
    simp only [ho, Sem.run_bind, run_buildSlice W t e len _ _ ie z hu hie hzz (by rw [hsz]; omega) (by rw [hsz]; omega) (by rw [parts_eval a parts k zs hparts, hsz]; exact Great.fill_flat _ _ (fun v hv => by obtain ⟨n, _, rfl⟩ := List.mem_map.1 hv; rfl) (by simp [hlen])), Result.andThen_ok]
    subst hlen
    rfl
end Go.Proofs.YtihiiidbhhlfnaaMy
namespace Go.Proofs.YtihiiidbhhlfnaaMy
open Go.RowKit Go.Proofs.YtihiiidbhhlfnaaW.PrintWords
theorem run_store_cell {P : Program} (w : World) (b j : Nat) (ty : TypeId) (v : Value) {cs : Array Value} {t : TypeId} (hg : w.heap[b]? = some (.cells cs t (0, 0))) (hj : j < cs.size) (hi : (P.info? ty).map (·.size) = some 1) (h1 : v.oneCell' = true) :
    (storeVar ty ⟨b, j, none⟩ v).run P w = .ok () (w.setCell ⟨b, j, none⟩ v) := by
  have := run_storeCells_cells (P := P) b j [v] 0 w (fun i hi => by
      have h0 : i = 0 := by simpa using hi
      subst h0
      rw [show j + (0 + 0) = j by omega, blk_cell hg j]
      simp [hj]) (fun i hi => by
      have h0 : i = 0 := by simpa using hi
      subst h0
      exact blk_frozen hg _) (fun x hx => by simp at hx; subst hx; exact h1)
  have hc : v.cells = #[v] := by cases v <;> first | rfl | cases h1
  cases hq : P.info? ty with
  | none => simp [hq] at hi
  | some i =>
    have hs : i.size = 1 := by simpa [hq] using hi
    simp only [Nat.add_zero] at this
    simp [storeVar, sizeOf, typeInfo, hq, hc, hs, this, World.setCells]
theorem store_at_event {P : Program} {ops : Array Oper} {rest : List Oper} {o : Oper} {a : Act} {Q : Exit → Act → World → Prop} {W : World} {base : Nat} (hgd : o.guard = none) (hN : o.dst = none) (T : TypeId) (p x : Operand) (ho : o.op = .store T p x)
    {g j : Nat} {t : TypeId} {cs : Array Value} {v : Value} (hp : a.eval p = .pointer (some ⟨g, j, none⟩)) (hx : a.eval x = v) (hg : W.heap[g]? = some (.cells cs t (0, 0))) (hj : j < cs.size) (hi : (P.info? T).map (·.size) = some 1) (h1 : v.oneCell' = true) (hb : base ≤ g)
    (h : ∀ w1, w1.heap[g]? = some (.cells (cs.setIfInBounds j v) t (0, 0)) → (∀ k, k ≠ g → w1.heap[k]? = W.heap[k]?) → Below base W w1 → wpList P ops Q rest a w1) : wpList P ops Q (o :: rest) a W := by
  refine wpList_plain hgd fun K hK => ?_
  unfold Oper.wp execOp
  simp only [ho, hp, hx, Instr.storeAt, Instr.sureAddr, Sem.run_bind, Sem.run_pure, Result.andThen_ok, run_store_cell W g j T v hg hj hi h1]
  refine hK _ _ ?_
  rw [hN]
  exact h _ (blk_set hg j v) (fun k hk => Below.heap_setCell W ⟨g, j, none⟩ v k hk) ((Below.refl _ _).setCell (p := ⟨g, j, none⟩) hb v)
section
variable {P : Program} {ops : Array Oper} {Q : Exit → Act → World → Prop}
theorem callP_ {oi : Oper} {N : Option Tmp} {a : Act} {w : World} {K : Act → World → Prop} (f : FuncId) (args : Array Value) (hw : Region.wanted oi (yielded ops a.tmps) = true) (hN : oi.dst = N) (hrun : (execOp a.eval oi).run P w = .ok (.enter f args) w)
    (h : Calls P f args w fun e w' => (∃ v, e = .returned v ∧ K (a.put N v) w') ∨ (∃ c, e = .panicked c ∧ Q (.panic c) a w')) : if Region.wanted oi (yielded ops a.tmps) = true then Oper.wp P oi a w K Q else K (a.put N undef) w := by
  rw [if_pos hw]
  subst hN
  unfold Oper.wp
  rw [hrun, Oper.upon_enter]
  refine h.mono fun e w'' hh => ?_
  rcases hh with ⟨v, rfl, hk⟩ | ⟨c, rfl, hk⟩
  · exact hk
  · exact hk
theorem goesP_ {oi : Oper} {N : Option Tmp} {a : Act} {w : World} {K : Act → World → Prop} {f : FuncId} {fn : Func} {xs : Array Operand} {ts : Array TypeId} (hf : P.funcs[f]? = some fn) (hname : (fn.name == "runtime.NumGoroutine") = false) (hb : fn.body.isSome = true) (args : Array Value)
    (hw : Region.wanted oi (yielded ops a.tmps) = true) (hN : oi.dst = N) (hop : oi.op = .call { callee := .value (.func f), args := xs, argTypes := ts }) (hargs : xs.map a.eval = args)
    (h : Calls P f args w fun e w' => (∃ v, e = .returned v ∧ K (a.put N v) w') ∨ (∃ c, e = .panicked c ∧ Q (.panic c) a w')) : if Region.wanted oi (yielded ops a.tmps) = true then Oper.wp P oi a w K Q else K (a.put N undef) w := by
  refine callP_ f args hw hN ?_ h
  have he := Go.Proofs.YtihiiidbhhlfnaaW.PrintLast.enters_ hf hname hb args w
  unfold execOp
  simp [hop, resolve, Deferred.ofValue, invoke, Act.eval, hargs, he]
end
end Go.Proofs.YtihiiidbhhlfnaaMy
