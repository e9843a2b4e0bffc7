/- Whatever reads as data at a type: its cells are of a kind (Kd), and what else is known of it. Laws of no one program. -/
import Derived.Test.YtpijgpjoobffoaaWWords
import Derived.WalkKit
import Derived.ProofKit
import Derived.OpenShut
import Derived.ShutString
import Derived.ChangeOld
import Derived.Below
import Derived.SizedLaws
namespace Go.Proofs.Ytpijgpjoobffoaa.O
open Go.RowKit Go.Proofs.YtpijgpjoobffoaaW.PrintWords Go.ChangeShapes Go.WideShapes
/-- Of type t: read as data, and of little weight: then of kind d, and good. -/
def Opens {α : Type} (P : Program) (t : TypeId) (d : Kd α) (good : α → Prop) : Prop :=
  ∀ (H : Type) (enc : TypeId × Value → H) (w : World) (base : Nat) (spare : Nat → Bool) (held : Bool) (fuel : Nat) (cs : List Value) (x : DataW H × List MemPlace),
    DataW.trod enc P w base spare held fuel t cs = some x → (∀ y ∈ x.1.weights P t, y ≤ reachBytes) → ∃ a, d.K w a cs ∧ good a
section
variable {P : Program} {t e : TypeId}
theorem opens_int {k : IntKind} (ht : P.underlying t = some (.int k)) : Opens P t (Kd.int k) (fun n => (Lit.int k n).wf = true) := by
  intro H enc w base spare held fuel cs x h _
  obtain ⟨m, rfl, rfl, hw⟩ := DataW.trod_int ht h
  exact ⟨m, rfl, hw⟩
theorem opens_bool (ht : P.underlying t = some .bool) : Opens P t Kd.bool (fun _ => True) := by
  intro H enc w base spare held fuel cs x h _
  obtain ⟨b, rfl, _⟩ := DataW.trod_bool ht h
  exact ⟨b, rfl, trivial⟩
theorem opens_string (ht : P.underlying t = some .string) : Opens P t Kd.string (fun s => s.size ≤ 140737488351232) := by
  intro H enc w base spare held fuel cs x h hs
  obtain ⟨s, rfl, rfl, _⟩ := DataW.trod_string ht h
  refine ⟨s, rfl, ?_⟩
  have := hs s.data.toList.length (by simp [DataW.weights])
  unfold reachBytes at this
  simpa using this
theorem opens_slice {α : Type} {d : Kd α} {good : α → Prop} (ht : P.underlying t = some (.slice e)) (he : Opens P e d good) (hc : P.cellsOf e = d.sz) (B : Nat) (hB : P.bytesOf e = B) :
    Opens P t (Kd.slice e d) (fun xs => xs.length ≤ 9223372036854775807 ∧ xs.length * B ≤ 140737488351232 ∧ ∀ x ∈ xs, good x) := by
  intro H enc w base spare held fuel cs x h hs
  rcases DataW.trod_slice ht h with ⟨rfl, rfl⟩ | ⟨a, len, cap, elems, rest, n, _, rfl, rfl, hb, hl, hm, hlen, hel, -, -⟩
  · refine ⟨[], ⟨none, 0, rfl, by simp, ?_⟩, by simp⟩
    exact ⟨rfl, by simp, fun h => by simp at h⟩
  · have hwt : (elems.length + rest.length) * P.bytesOf e ≤ reachBytes := by
      have := hs ((elems.length + rest.length) * P.bytesOf e) (by simp [DataW.weights, ht])
      exact this
    have hwe : ∀ y ∈ elems, ∀ z ∈ y.1.weights P e, z ≤ reachBytes := by
      intro y hy z hz
      refine hs z ?_
      have hall : ∀ (l : List (DataW H)) (q : DataW H), q ∈ l → ∀ z ∈ q.weights P e, z ∈ DataW.weightsAll P e l := by
        intro l
        induction l with
        | nil => intro q hq; cases hq
        | cons u l ih =>
          intro q hq z hz
          rw [DataW.weightsAll]
          rcases List.mem_cons.1 hq with rfl | hq
          · exact List.mem_append_left _ hz
          · exact List.mem_append_right _ (ih q hq z hz)
      have := hall (elems.map (·.1)) y.1 (List.mem_map.2 ⟨y, hy, rfl⟩) z hz
      simp only [DataW.weights, ht]
      exact List.mem_cons_of_mem _ (List.mem_append_left _ this)
    have each : ∀ i, i < len → ∃ y cs', w.cells? base (a.add (i * P.cellsOf e)) (P.cellsOf e) = some cs' ∧ d.K w y cs' ∧ good y := by
      intro i hi
      have h1 := hel i hi
      have h2 : elems[i]? = some elems[i] := List.getElem?_eq_getElem (by omega)
      rw [h2, Option.bind_eq_some_iff] at h1
      obtain ⟨cs', hcs, hd⟩ := h1
      obtain ⟨y, hK, hg⟩ := he H enc w base spare held n cs' _ hd (hwe _ (List.getElem_mem (by omega)))
      exact ⟨y, cs', hcs, hK, hg⟩
    let f : Fin len → α := fun i => Classical.choose (each i.val i.isLt)
    have hf : ∀ i : Fin len, ∃ cs', w.cells? base (a.add (i.val * P.cellsOf e)) (P.cellsOf e) = some cs' ∧ d.K w (f i) cs' ∧ good (f i) := fun i => Classical.choose_spec (each i.val i.isLt)
    have hsl : len * P.bytesOf e ≤ 140737488351232 := by
      have h1 : elems.length * P.bytesOf e ≤ (elems.length + rest.length) * P.bytesOf e := Nat.mul_le_mul_right _ (by omega)
      unfold reachBytes at hwt
      rw [hlen] at h1
      rw [hlen] at hwt
      omega
    refine ⟨List.ofFn f, ⟨some a, cap, by simp, by simpa using hl, ?_⟩, by unfold maxLen at hm; simp; omega, by simp; rw [← hB]; exact hsl, ?_⟩
    · refine ⟨by simp, by unfold maxLen at hm; simp; omega, fun _ => ⟨a, rfl, ?_⟩⟩
      intro j p hp
      have hj : j < len := by have := (List.getElem?_eq_some_iff.1 hp).1; simpa using this
      obtain ⟨cs', hcs, hK, _⟩ := hf ⟨j, hj⟩
      have hpe : p = f ⟨j, hj⟩ := by
        rw [List.getElem?_eq_getElem (by simpa using hj)] at hp
        injection hp with hp
        rw [← hp]
        simp
      subst hpe
      refine ⟨cs', d.K_len hK, hK, ?_⟩
      intro i u hu
      have hcell := (World.cells?_some hcs).2.2 i (by have := (List.getElem?_eq_some_iff.1 hu).1; rw [d.K_len hK] at this; omega)
      rw [hu] at hcell
      rw [← hc]
      have hadd : (a.add (j * P.cellsOf e)).add i = a.add (j * P.cellsOf e + i) := Addr.add_add _ _ _
      rw [← hadd]
      exact hcell
    · intro y hy
      obtain ⟨i, hi⟩ := List.mem_ofFn.1 hy
      obtain ⟨cs', _, _, hg⟩ := hf i
      rw [← hi]
      exact hg
/-- The fields of a struct, from a place of its cells on. -/
def OpensFs {α : Type} (P : Program) (fs : List Field) (o : Nat) (d : Kd α) (good : α → Prop) : Prop :=
  ∀ (H : Type) (enc : TypeId × Value → H) (w : World) (base : Nat) (spare : Nat → Bool) (held : Bool) (fuel : Nat) (cs : List Value) (xs : List (DataW H × List MemPlace)),
    xs.length = fs.length → (∀ (i : Nat) (f : Field), fs[i]? = some f → DataW.trod enc P w base spare held fuel f.type ((cs.drop f.offset).take (P.cellsOf f.type)) = xs[i]?) →
    (∀ y ∈ DataW.weightsEach P (fs.map (·.type)) (xs.map (·.1)), y ≤ reachBytes) → cs.length = o + d.sz → ∃ a, d.K w a (cs.drop o) ∧ good a
theorem opens_last {α : Type} {d : Kd α} {good : α → Prop} {f : Field} {o : Nat} (ho : f.offset = o) (h : Opens P f.type d good) (hc : P.cellsOf f.type = d.sz) : OpensFs P [f] o d good := by
  intro H enc w base spare held fuel cs xs hlen hx hw hcs
  match xs, hlen with
  | [x], _ =>
    have h0 := hx 0 f rfl
    rw [ho, hc] at h0
    have hd : (cs.drop o).take d.sz = cs.drop o := List.take_of_length_le (by simp; omega)
    rw [hd] at h0
    exact h H enc w base spare held fuel _ x h0 (fun y hy => hw y (by simp [DataW.weightsEach, hy]))
theorem opens_cons {α β : Type} {d : Kd α} {good : α → Prop} {d2 : Kd β} {good2 : β → Prop} {f : Field} {fs : List Field} {o : Nat} (ho : f.offset = o) (h : Opens P f.type d good) (hc : P.cellsOf f.type = d.sz)
    (h2 : OpensFs P fs (o + d.sz) d2 good2) : OpensFs P (f :: fs) o (Kd.pair d d2) (fun p => good p.1 ∧ good2 p.2) := by
  intro H enc w base spare held fuel cs xs hlen hx hw hcs
  match xs, hlen with
  | x :: xs, hlen =>
    have h0 := hx 0 f rfl
    rw [ho, hc] at h0
    have hsz : (Kd.pair d d2).sz = d.sz + d2.sz := rfl
    rw [hsz] at hcs
    obtain ⟨a, hK, hg⟩ := h H enc w base spare held fuel _ x h0 (fun y hy => hw y (by simp [DataW.weightsEach, hy]))
    obtain ⟨b, hK2, hg2⟩ := h2 H enc w base spare held fuel cs xs (by simpa using hlen) (fun i f hf => by have := hx (i + 1) f (by simpa using hf); simpa using this)
      (fun y hy => hw y (by simp [DataW.weightsEach]; exact .inr (by simpa using hy))) (by omega)
    refine ⟨(a, b), ⟨_, _, ?_, hK, hK2⟩, hg, hg2⟩
    rw [← List.drop_drop]
    exact (List.take_append_drop _ _).symm
theorem opens_struct {α : Type} {d : Kd α} {good : α → Prop} {fs : Array Field} (ht : P.underlying t = some (.struct fs)) (h : OpensFs P fs.toList 0 d good) (hc : P.cellsOf t = d.sz) : Opens P t d good := by
  intro H enc w base spare held fuel cs x hx hs
  obtain ⟨xs, n, _, rfl, hl, hlen, hf⟩ := DataW.trod_struct ht hx
  obtain ⟨a, hK, hg⟩ := h H enc w base spare held n cs xs (by simpa using hlen) (fun i f hi => hf i f (by simpa using hi)) (fun y hy => hs y (by simp only [DataW.weights, ht]; exact hy)) (by omega)
  exact ⟨a, by simpa using hK, hg⟩
theorem opens_iso {α β : Type} {d : Kd α} {good : α → Prop} (h : Opens P t d good) (f : β → α) (g : α → β) (hg : ∀ p, f (g p) = p) : Opens P t (Kd.iso d f) (fun x => good (f x)) := by
  intro H enc w base spare held fuel cs x hx hs
  obtain ⟨a, hK, hgood⟩ := h H enc w base spare held fuel cs x hx hs
  exact ⟨g a, by show d.K w (f (g a)) cs; rw [hg]; exact hK, by show good (f (g a)); rw [hg]; exact hgood⟩
theorem opens_imp {α : Type} {d : Kd α} {good good' : α → Prop} (h : Opens P t d good) (hg : ∀ a, good a → good' a) : Opens P t d good' := by
  intro H enc w base spare held fuel cs x hx hs
  obtain ⟨a, hK, hgood⟩ := h H enc w base spare held fuel cs x hx hs
  exact ⟨a, hK, hg a hgood⟩
theorem opens_at {α : Type} {d : Kd α} {good : α → Prop} (h : Opens P t d good) {H : Type} {enc : TypeId × Value → H} {w : World} {base : Nat} {spare : Nat → Bool} {held : Bool} {v : Value} {x : DataW H} {ps : List MemPlace} {ts : List TypeId} {ds : List (DataW H)} {j : Nat}
    (hsz : (DataW.weightsEach P ts ds).all (· ≤ reachBytes) = true) (ht : ts[j]? = some t) (hd : ds[j]? = some x) (hx : DataW.Trod enc P w base spare held t v x ps) : ∃ a, d.K w a v.cells.toList ∧ good a := by
  obtain ⟨fuel, hf⟩ := hx
  refine h H enc w base spare held fuel _ _ hf (fun y hy => ?_)
  have := List.all_eq_true.1 hsz y (DataW.weights_mem_each ht hd y hy)
  simpa using this
end
theorem okWide_struct {P : Program} {w : World} {r : Reach} {base : Nat} {t : TypeId} {v : Value} {fs : Array Field} (ht : P.underlying t = some (.struct fs)) (h : Value.okWide P w r base t v) : ∃ cs, v = .agg cs := by
  unfold Value.okWide at h
  rw [ht] at h
  obtain ⟨cs, h, _⟩ := h
  exact ⟨cs, h⟩
theorem agg_cells {cs : Array Value} {l : List Value} (h : (Value.agg cs).cells.toList = l) : cs = l.toArray := by
  subst h
  simp [Value.cells]
end Go.Proofs.Ytpijgpjoobffoaa.O
