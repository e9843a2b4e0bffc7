/- Contracts of the functions of this seat: what each call computes, as a plain Lean function. Made by this session's own generator. -/
import Derived.Test.YtihiiidbhhlfnaaGx0
import Derived.Test.YtihiiidbhhlfnaaGx3
import Derived.Test.YtihiiidbhhlfnaaGx5
import Derived.Test.YtihiiidbhhlfnaaGx6
import Derived.Test.YtihiiidbhhlfnaaGx7
import Derived.Test.YtihiiidbhhlfnaaGx8
namespace Go.Proofs.Ytihiiidbhhlfnaa.G
open Go.RowKit Go.Proofs.YtihiiidbhhlfnaaMy Go.Proofs.YtihiiidbhhlfnaaW.PrintWords Go.Proofs.YtihiiidbhhlfnaaW.PrintLast Go.Proofs.YtihiiidbhhlfnaaW.PrintMore
attribute [local go_sem] max2_int min2_int max_two min_two max_three min_three max_four min_four   -- for this text's walks alone
set_option linter.unusedVariables false
set_option linter.unusedSimpArgs false

/-! ### ship_Read: function 16 -/
-- by hand
theorem ship_Read.byte_mono {β : Type} (xs : List Int) (f g : Int → List Int → Option (Option β)) (h : ∀ a b, LeO (f a b) (g a b)) : LeO (ship_in_byte.P xs f) (ship_in_byte.P xs g) := by
 cases xs with
 | nil => exact LeO.refl _
 | cons b l => exact h _ _
theorem ship_Read.fix_mono {β : Type} (k : Nat) (xs : List Int) (f g : Int → List Int → Option (Option β)) (h : ∀ a b, LeO (f a b) (g a b)) : LeO (ship_in_fix.P k xs f) (ship_in_fix.P (k + 1) xs g) := by
 unfold ship_in_fix.P
 exact LeO.ite (LeO.bind (pack_TakeFix.mono _ _) (fun _ => h _ _)) (LeO.refl _)
theorem ship_Read.two_mono {β : Type} (k : Nat) (xs : List Int) (f g : Int → List Int → Option (Option β)) (h : ∀ a b, LeO (f a b) (g a b)) : LeO (ship_in_two.P k xs f) (ship_in_two.P (k + 1) xs g) := by
 unfold ship_in_two.P
 exact LeO.ite (LeO.bind (pack_Take.mono _ _ _) (fun _ => h _ _)) (LeO.refl _)
theorem ship_Read.items_mono {β : Type} (k : Nat) (f g : List S43 → List Int → Option (Option β)) (h : ∀ a b, LeO (f a b) (g a b)) : ∀ (m : Nat) (acc : List S43) (xs : List Int), LeO (ship_in_row.items k m acc xs f) (ship_in_row.items (k + 1) m acc xs g)
 | 0, acc, xs => h _ _
 | m + 1, acc, xs => ship_Read.byte_mono _ _ _ (fun c xs => ship_Read.fix_mono _ _ _ _ (fun x xs => LeO.ite (ship_Read.items_mono k f g h m _ _) (LeO.refl _)))
theorem ship_Read.row_mono {β : Type} (k : Nat) (xs : List Int) (f g : S41 → List Int → Option (Option β)) (h : ∀ a b, LeO (f a b) (g a b)) : LeO (ship_in_row.P k xs f) (ship_in_row.P (k + 1) xs g) :=
 ship_Read.byte_mono _ _ _ (fun a xs => ship_Read.byte_mono _ _ _ (fun b xs => ship_Read.fix_mono _ _ _ _ (fun c xs => ship_Read.fix_mono _ _ _ _ (fun d xs => ship_Read.two_mono _ _ _ _ (fun m xs => LeO.ite (ship_Read.items_mono k _ _ (fun _ _ => h _ _) _ _ _) (LeO.refl _))))))
def ship_Read.rows {β : Type} (k : Nat) : Nat → List S41 → List Int → (List S41 → List Int → Option (Option β)) → Option (Option β)
 | 0, acc, xs, f => f acc xs
 | m + 1, acc, xs, f => ship_in_row.P k xs fun x xs => if acc.length < 1000000000 then ship_Read.rows k m (acc ++ [x]) xs f else none
theorem ship_Read.rows_mono {β : Type} (k : Nat) (f g : List S41 → List Int → Option (Option β)) (h : ∀ a b, LeO (f a b) (g a b)) : ∀ (m : Nat) (acc : List S41) (xs : List Int), LeO (ship_Read.rows k m acc xs f) (ship_Read.rows (k + 1) m acc xs g)
 | 0, acc, xs => h _ _
 | m + 1, acc, xs => ship_Read.row_mono _ _ _ _ (fun x xs => LeO.ite (ship_Read.rows_mono k f g h m _ _) (LeO.refl _))
def ship_Read.P (k : Nat) (xs : List Int) : Option (Option (List S41 × List Int)) :=
 ship_in_byte.P xs fun n xs => if n < 1000000000 then ship_Read.rows k n.toNat [] xs fun l xs => some (some (l, xs)) else none
def ship_Read.last (ok : Bool) (r : Option (List S41 × List Int)) : Option (List S41 × Int) :=
 match r with
 | none => some ([], 230)
 | some (l, xs) => if ok = true then (if xs.length = 0 then (ship_Check.f l).bind fun b => if b = true then some (l, 0) else some ([], 230) else some ([], 230)) else some ([], 230)
def ship_Read.f (k : Nat) (l0 : List Int) : Option (List S41 × Int) :=
 (bytes_HasPrefix.f l0 [67, 79]).bind fun ok => (ship_Read.P k (if ok = true then l0.drop 2 else l0)).bind fun r => ship_Read.last ok r
theorem ship_Read.mono : ∀ l0 k, LeO (ship_Read.f k l0) (ship_Read.f (k + 1) l0) := by
 intro l0 k
 unfold ship_Read.f
 refine LeO.bind (LeO.refl _) (fun ok => LeO.bind ?_ (fun _ => LeO.refl _))
 exact ship_Read.byte_mono _ _ _ (fun n xs => LeO.ite (ship_Read.rows_mono k _ _ (fun _ _ => LeO.refl _) _ _ _) (LeO.refl _))
abbrev ship_Read.R (w : World) (r1 : List S41) (r2 : Int) (e : Ending) (w' : World) : Prop := ∃ v0_ : Value, e = .returned (.tuple #[v0_, .int .i64 r2]) ∧ Kd.S k41 41 w' w.heap.size (fun _ => True) v0_ r1 ∧ Below w.heap.size w w'
theorem ship_Read.fails (w W : World) (a : Act) (gl ge : Nat) (v x : Value) (h2 : a.tmps.getD 2 undef = .pointer (some ⟨gl, 0, none⟩)) (h3 : a.tmps.getD 3 undef = .pointer (some ⟨ge, 0, none⟩)) (hd : a.defers = [{ target := .fn (.func 30) #[.pointer (some ⟨gl, 0, none⟩), .pointer (some ⟨ge, 0, none⟩)], args := #[] }])
  (hl : W.heap[gl]? = some (.cells #[v] 22 (0, 0))) (he : W.heap[ge]? = some (.cells #[x] 26 (0, 0))) (bl : w.heap.size ≤ gl) (be : w.heap.size ≤ ge) (hB : Below w.heap.size w W) : bodyPostD Try.prog Try.f16 (ship_Read.R w [] 230) (.panic ship_in_take.lost) a W := by
 show Leaves _ _ _ _ _ _ _
 rw [hd]
 refine leaves_cons (f := 30) (args := #[.pointer (some ⟨gl, 0, none⟩), .pointer (some ⟨ge, 0, none⟩)]) (by simp) (by simp [go_sem]) ?_
 refine (ship_Read_1.lost gl ge w.heap.size v x W hl he bl be hB.size).mono ?_
 rintro e u' w'' ⟨rfl, rfl, p1, p2, p3⟩
 have q1 := (blk_cell p1 0).trans rfl
 have q2 := (blk_cell p2 0).trans rfl
 refine ⟨.tuple #[.slice none 0 0, .int .i64 230], ?_, _, rfl, Kd.S_nil _ _ _ _ _, hB.trans p3⟩
 rw [Array.getD_eq_getD_getElem?] at h2 h3
 simp [results, Try.results16, go_sem, h2, h3, q1, q2]
theorem ship_Read.ends (w W : World) (a : Act) (gl ge : Nat) (v : Value) (r1 : List S41) (r2 : Int) (h2 : a.tmps.getD 2 undef = .pointer (some ⟨gl, 0, none⟩)) (h3 : a.tmps.getD 3 undef = .pointer (some ⟨ge, 0, none⟩)) (hd : a.defers = [{ target := .fn (.func 30) #[.pointer (some ⟨gl, 0, none⟩), .pointer (some ⟨ge, 0, none⟩)], args := #[] }])
  (hl : W.heap[gl]? = some (.cells #[v] 22 (0, 0))) (he : W.heap[ge]? = some (.cells #[.int .i64 r2] 26 (0, 0))) (hv : v.oneCell' = true) (hS : Kd.S k41 41 W w.heap.size (fun _ => True) v r1) (hB : Below w.heap.size w W) : bodyPostD Try.prog Try.f16 (ship_Read.R w r1 r2) .ret a W := by
 show Leaves _ _ _ _ _ _ _
 rw [hd]
 refine leaves_cons (f := 30) (args := #[.pointer (some ⟨gl, 0, none⟩), .pointer (some ⟨ge, 0, none⟩)]) (by simp) (by simp [go_sem]) ?_
 refine (ship_Read_1.idle gl ge W).mono ?_
 rintro e u' w'' ⟨rfl, rfl, rfl⟩
 have q1 := (blk_cell hl 0).trans rfl
 have q2 := (blk_cell he 0).trans rfl
 obtain ⟨A, c, ev⟩ := Kd.S_slice hS
 subst ev
 refine ⟨.tuple #[.slice A r1.length c, .int .i64 r2], ?_, _, rfl, hS, hB⟩
 rw [Array.getD_eq_getD_getElem?] at h2 h3
 simp [results, Try.results16, go_sem, h2, h3, q1, q2]
theorem ship_Read.S_stays {α : Type} {d : Kd α} {e base g : Nat} {v : Value} {xs : List α} {ys : List Int} {w0 w w2 : World} (h : Kd.S d e w base (fun _ => True) v xs) (hi : ship_in_take.Holds w0 w g ys) (hs : ship_in_take.Stays g w w2) (hE : ∀ q ∈ e :: d.E, q ≠ 63) : Kd.S d e w2 base (fun k => True ∧ ¬ w.heap.size ≤ k) v xs :=
 Kd.S_mono (Kd.S_step (Kd.S_bound h) (fun k hk hl => by
  obtain ⟨_, _, _, q, hq, cells, hc⟩ := hk
  have hkg : k ≠ g := fun e2 => by
   obtain ⟨_, _, h1, _⟩ := hi
   subst e2
   rw [hc] at h1
   simp only [Option.some.injEq, Obj.cells.injEq] at h1
   exact hE q hq h1.2.1
  exact (hs k _ hc hkg).trans hc.symm)) (fun _ hk => ⟨trivial, by have := hk.2.2.1; omega⟩)
theorem ship_Read.S_other {α : Type} {d : Kd α} {e base ga t : Nat} {v : Value} {xs : List α} {w w2 : World} {cs : Array Value} (h : Kd.S d e w base (fun _ => True) v xs) (hg : w.heap[ga]? = some (.cells cs t (0, 0))) (hE : ∀ q ∈ e :: d.E, q ≠ t) (hk : ∀ k, k ≠ ga → w2.heap[k]? = w.heap[k]?) : Kd.S d e w2 base (fun _ => True) v xs :=
 Kd.S_mono (Kd.S_step (Kd.S_bound h) (fun k hk2 hl => hk k (fun e2 => by
  obtain ⟨_, _, _, q, hq, cells, hc⟩ := hk2
  subst e2
  rw [hc] at hg
  simp only [Option.some.injEq, Obj.cells.injEq] at hg
  exact hE q hq hg.2.1))) (fun _ _ => trivial)
theorem ship_Read.alike {P : Program} {fn : Func} {t t' : Array Value} {R : Ending → World → Prop} (ht : ∀ w, (results fn t).run P w = (results fn t').run P w) : ∀ (ds : List Deferred) (u : FrameMode) (w : World), Leaves P fn t R ds u w → Leaves P fn t' R ds u w
 | [], .returning, w, h => by
  obtain ⟨v, h1, h2⟩ := h
  exact ⟨v, (ht w).symm.trans h1, h2⟩
 | [], .panicking c, w, h => h
 | [], .run, w, h => h
 | d :: ds, u, w, h => by
  obtain ⟨h1, fv, cap, f, args, h2, h3, h4⟩ := h
  refine ⟨h1, fv, cap, f, args, h2, h3, h4.mono ?_⟩
  intro e u' w' h5
  cases e
  ·exact ship_Read.alike ht ds _ _ h5
  ·exact ship_Read.alike ht ds _ _ h5
  ·exact h5
theorem ship_Read.put (R : Ending → World → Prop) (s : Nat) (v : Value) (h2 : s ≠ 2) (h3 : s ≠ 3) (c : List PanicEntry) (a : Act) (w : World) (h : bodyPostD Try.prog Try.f16 R (.panic c) (a.put (some s) v) w) : bodyPostD Try.prog Try.f16 R (.panic c) a w := by
 refine ship_Read.alike (fun w => ?_) _ _ _ h
 have e2 : (a.put (some s) v).tmps[2]? = a.tmps[2]? := Array.getElem?_setIfInBounds_ne h2
 have e3 : (a.put (some s) v).tmps[3]? = a.tmps[3]? := Array.getElem?_setIfInBounds_ne h3
 simp [results, Try.results16, e2, e3]
theorem ship_Read.puts (w W : World) (a : Act) (gl ge : Nat) (v x v' : Value) (r1 : List S41) (r2 : Int) (h2 : a.tmps.getD 2 undef = .pointer (some ⟨gl, 0, none⟩)) (h3 : a.tmps.getD 3 undef = .pointer (some ⟨ge, 0, none⟩)) (hd : a.defers = [{ target := .fn (.func 30) #[.pointer (some ⟨gl, 0, none⟩), .pointer (some ⟨ge, 0, none⟩)], args := #[] }])
  (hl : W.heap[gl]? = some (.cells #[v] 22 (0, 0))) (he : W.heap[ge]? = some (.cells #[x] 26 (0, 0))) (hne : gl ≠ ge) (bl : w.heap.size ≤ gl) (be : w.heap.size ≤ ge) (hv : v'.oneCell' = true) (hS : Kd.S k41 41 W w.heap.size (fun _ => True) v' r1) (hB : Below w.heap.size w W) : bodyPostD Try.prog Try.f16 (ship_Read.R w r1 r2) .ret a ((W.setCell ⟨gl, 0, none⟩ v').setCell ⟨ge, 0, none⟩ (.int .i64 r2)) := by
 have k1 : ∀ k, k ≠ gl → (W.setCell ⟨gl, 0, none⟩ v').heap[k]? = W.heap[k]? := fun k hk => Below.heap_setCell W ⟨gl, 0, none⟩ _ k hk
 have k2 : ∀ k, k ≠ ge → ((W.setCell ⟨gl, 0, none⟩ v').setCell ⟨ge, 0, none⟩ (.int .i64 r2)).heap[k]? = (W.setCell ⟨gl, 0, none⟩ v').heap[k]? := fun k hk => Below.heap_setCell _ ⟨ge, 0, none⟩ _ k hk
 have p1 : (W.setCell ⟨gl, 0, none⟩ v').heap[gl]? = some (.cells #[v'] 22 (0, 0)) := blk_put (cs' := #[v']) hl 0 v' rfl
 have p2 : (W.setCell ⟨gl, 0, none⟩ v').heap[ge]? = some (.cells #[x] 26 (0, 0)) := (k1 ge (Ne.symm hne)).trans he
 have s1 := ship_Read.S_other hS hl (by simp [k41, k43, Kd.iso, Kd.pair, Kd.int, Kd.scalar, Kd.slice]) k1
 have s2 := ship_Read.S_other s1 p2 (by simp [k41, k43, Kd.iso, Kd.pair, Kd.int, Kd.scalar, Kd.slice]) k2
 exact ship_Read.ends w _ a gl ge v' r1 r2 h2 h3 hd ((k2 gl hne).trans p1) (blk_put (cs' := #[.int .i64 r2]) p2 0 (.int .i64 r2) rfl) hv s2 ((hB.setCell (p := ⟨gl, 0, none⟩) bl _).setCell (p := ⟨ge, 0, none⟩) be _)
set_option maxHeartbeats 8000000 in
set_option maxRecDepth 100000 in
theorem ship_Read.calls (k : Nat) (A0 : Option Addr) (c0 : Nat) (l0 : List Int) (r1 : List S41) (r2 : Int) (w : World) (hr0 : Kd.C (Kd.int .u8) w A0 l0.length l0) (hc0 : l0.length ≤ c0) (h : ship_Read.f k l0 = some (r1, r2)) :
  Calls Try.prog 16 #[.slice A0 l0.length c0] w fun e w' => ∃ v0_ : Value, e = .returned (.tuple #[v0_, .int .i64 r2]) ∧ Kd.S k41 41 w' w.heap.size (fun _ => True) v0_ r1 ∧ Below w.heap.size w w' := by
 show Calls Try.prog 16 #[.slice A0 l0.length c0] w (ship_Read.R w r1 r2)
 obtain ⟨ok, hok, h⟩ := Option.bind_eq_some_iff.mp h
 obtain ⟨o, ho, h⟩ := Option.bind_eq_some_iff.mp h
 obtain ⟨rest, hrest⟩ : ∃ rest, rest = if ok = true then l0.drop 2 else l0 := ⟨_, rfl⟩
 rw [← hrest] at ho
 have HCP := Aside0.mk (fun (u : World) (Am : Option Addr) (hB : Below w.heap.size w u) (hC : Kd.C (Kd.int .u8) u Am 2 [67, 79]) => (show Calls Try.prog 31 #[.slice A0 l0.length c0, .slice Am 2 2] u (fun e u' => (∃ A c, e = .returned (.tuple #[.slice A rest.length c, .bool ok]) ∧ rest.length ≤ c ∧ Kd.C (Kd.int .u8) w A rest.length rest) ∧ Below u.heap.size u u') from by subst hrest; exact bytes_CutPrefix.calls A0 c0 l0 Am 2 [67, 79] ok w u hB hr0 hc0 hC (Nat.le_refl _) hok))
 have HN := Aside0.mk (show o = none → r1 = [] ∧ r2 = 230 from fun e => by subst e; unfold ship_Read.last at h; simp only [Option.some.injEq, Prod.mk.injEq] at h; exact ⟨h.1.symm, h.2.symm⟩)
 have HE := Aside0.mk h
 have HH := Aside0.mk ho
 have hu := Try.underlying63
 have hu2 := Try.underlying41
 have hmf : ∀ (fn : Fn) (first cap : Array Value) (w : World), (Instr.makeFunc fn first cap).run Try.prog w = .ok (.func fn first cap) w := fun _ _ _ _ => rfl
 have HB := Aside0.mk (Below.refl w.heap.size w)
 clear hr0 hc0 h ho hok hrest
 unfold ship_Read.P at HH
 go_enter_defers Try.func16, Try.ntmps16
 go_wp2_with (first | ((with_reducible refine gate_dst (N := 2) rfl ?_); refine box_event ?hg (N := 2) ?hd (cs := #[.slice none 0 0]) (t := 22) ?hr ?_; (case hd => rfl); (case hg => rfl); (case hr => first | (go_simp; done) | (go_simp; rfl)); intro gl hg wa hbox hb; have GEgl := Aside0.mk (show w.heap.size ≤ gl from hg ▸ below_size (by repeat (first | (with_reducible first | exact HB.out | apply below_alloc | apply pw_below_drewN | apply below_drew1) | exact HB.out))); have n0_ := Aside0.mk (below_step (by repeat (first | (with_reducible first | exact HB.out | apply below_alloc | apply pw_below_drewN | apply below_drew1) | exact HB.out)) hb); have BKgl := Aside0.mk hbox; have hxgl := blk_cell hbox; have hygl := blk_frozen hbox; clear HB; have HB := n0_; clear n0_ hb hbox hg) | ((with_reducible refine gate_dst (N := 3) rfl ?_); refine box_event ?hg (N := 3) ?hd (cs := #[.int .i64 0]) (t := 26) ?hr ?_; (case hd => rfl); (case hg => rfl); (case hr => first | (go_simp; done) | (go_simp; rfl)); intro ge hg wb hbox hb; have NBge_gl := Aside0.mk (show ge ≠ gl from by have z_ := (Array.getElem?_eq_some_iff.1 BKgl.out).1; omega); have NBgl_ge := Aside0.mk (Ne.symm NBge_gl.out); have GEge := Aside0.mk (show w.heap.size ≤ ge from hg ▸ below_size (by repeat (first | (with_reducible first | exact HB.out | apply below_alloc | apply pw_below_drewN | apply below_drew1) | exact HB.out))); have n0_ := Aside0.mk (below_step (by repeat (first | (with_reducible first | exact HB.out | apply below_alloc | apply pw_below_drewN | apply below_drew1) | exact HB.out)) hb); have BKge := Aside0.mk hbox; have hxge := blk_cell hbox; have hyge := blk_frozen hbox; have zgl := Aside0.mk (blk_below BKgl.out hb); clear BKgl hxgl hygl; have BKgl := zgl; clear zgl; have hxgl := blk_cell BKgl.out; have hygl := blk_frozen BKgl.out; clear HB; have HB := n0_; clear n0_ hb hbox hg) | (go_at_call 22; (with_reducible refine (ship_mark.calls _).mono ?_); rintro e w4 ⟨Am, rfl, hC, hb⟩; have HCm := Aside0.mk hC; have z1_ := Aside0.mk (blk_below BKgl.out hb); have z2_ := Aside0.mk (blk_below BKge.out hb); have z3_ := Aside0.mk (below_step HB.out hb); clear BKgl hxgl hygl BKge hxge hyge HB; have BKgl := z1_; have hxgl := blk_cell z1_.out; have hygl := blk_frozen z1_.out; have BKge := z2_; have hxge := blk_cell z2_.out; have hyge := blk_frozen z2_.out; have HB := z3_; clear z1_ z2_ z3_; clear hC hb) | (go_at_call 31; (with_reducible refine (HCP.out _ Am HB.out HCm.out).mono ?_); rintro e w5 ⟨⟨Ar, cr, rfl, hcr, hCr⟩, hb⟩; have HCR := Aside0.mk hCr; have HCc := Aside0.mk hcr; have z1_ := Aside0.mk (blk_below BKgl.out hb); have z2_ := Aside0.mk (blk_below BKge.out hb); have z3_ := Aside0.mk (below_step HB.out hb); clear BKgl hxgl hygl BKge hxge hyge HB; have BKgl := z1_; have hxgl := blk_cell z1_.out; have hygl := blk_frozen z1_.out; have BKge := z2_; have hxge := blk_cell z2_.out; have hyge := blk_frozen z2_.out; have HB := z3_; clear z1_ z2_ z3_; clear hCr hcr hb) | ((with_reducible refine gate_dst (N := 16) rfl ?_); refine box_event ?hg (N := 16) ?hd (cs := #[.slice Ar rest.length cr]) (t := 63) ?hr ?_; (case hd => rfl); (case hg => rfl); (case hr => first | (go_simp; done) | (go_simp; rfl)); intro g hg wc hbox hb; have NBg_gl := Aside0.mk (show g ≠ gl from by have z_ := (Array.getElem?_eq_some_iff.1 BKgl.out).1; omega); have NBgl_g := Aside0.mk (Ne.symm NBg_gl.out); have NBg_ge := Aside0.mk (show g ≠ ge from by have z_ := (Array.getElem?_eq_some_iff.1 BKge.out).1; omega); have NBge_g := Aside0.mk (Ne.symm NBg_ge.out); have GEg := Aside0.mk (show w.heap.size ≤ g from hg ▸ below_size (by repeat (first | (with_reducible first | exact HB.out | apply below_alloc | apply pw_below_drewN | apply below_drew1) | exact HB.out))); have n0_ := Aside0.mk (below_step (by repeat (first | (with_reducible first | exact HB.out | apply below_alloc | apply pw_below_drewN | apply below_drew1) | exact HB.out)) hb); have BKg := Aside0.mk hbox; have hxg := blk_cell hbox; have hyg := blk_frozen hbox; have zgl := Aside0.mk (blk_below BKgl.out hb); clear BKgl hxgl hygl; have BKgl := zgl; clear zgl; have hxgl := blk_cell BKgl.out; have hygl := blk_frozen BKgl.out; have zge := Aside0.mk (blk_below BKge.out hb); clear BKge hxge hyge; have BKge := zge; clear zge; have hxge := blk_cell BKge.out; have hyge := blk_frozen BKge.out; clear HB; have HB := n0_; clear n0_ hb hbox hg) | (go_at_call 32; have hi0 : ship_in_take.Holds w wc g rest := ⟨Ar, cr, BKg.out, HCc.out, HCR.out⟩; have NGL := Aside0.mk (show gl ≠ g from NBgl_g.out); have NGE := Aside0.mk (show ge ≠ g from NBge_g.out); have hq0 := ship_in_byte.cps _ o rest g w wc HB.out GEg.out hi0 HH.out; (with_reducible refine hq0.mono ?_); clear hq0; rintro e w6 (⟨b7, l7, hf, rfl, hh, hb, hs⟩ | ⟨ho, rfl, hb, hs⟩); rotate_left; exact (by obtain ⟨rfl, rfl⟩ := HN.out ho; exact ship_Read.fails w _ _ gl ge _ _ rfl rfl rfl (hs gl _ BKgl.out NGL.out) (hs ge _ BKge.out NGE.out) GEgl.out GEge.out hb); have HF7 := Aside0.mk hf; have HI := Aside0.mk hh; have z1_ := Aside0.mk (hs gl _ BKgl.out NGL.out); have z2_ := Aside0.mk (hs ge _ BKge.out NGE.out); clear BKgl hxgl hygl BKge hxge hyge HB BKg hxg hyg; have BKgl := z1_; have BKge := z2_; have HB := Aside0.mk hb; clear z1_ z2_ hf hh hb hs hi0))
 have hq := HF7.out
 split at hq
 case isFalse => cases hq
 rename_i hm
 have HM := Aside0.mk hm
 have HQ := Aside0.mk hq
 clear hq hm HF7 HH
 go_loopw [19] (fun v19 wr => ∃ (i : Nat) (acc : List S41) (ys : List Int) (v : Value), i ≤ b7.toNat ∧ v19 = .int .i64 i ∧ Aside0 (ship_Read.rows k (b7.toNat - i) acc ys (fun l xs => some (some (l, xs))) = some o) ∧ Aside0 (ship_in_take.Holds w wr g ys) ∧ Aside0 (wr.heap[gl]? = some (.cells #[v] 22 (0, 0))) ∧ Aside0 (wr.heap[ge]? = some (.cells #[.int .i64 0] 26 (0, 0))) ∧ Aside0 (Kd.S k41 41 wr w.heap.size (fun _ => True) v acc) ∧ Aside0 (Below w.heap.size w wr)) (fun v19 _ => b7.toNat - (intOf v19).toNat)
 case atStart => exact ⟨0, [], _, _, Nat.zero_le _, rfl, HQ, HI, BKgl, BKge, ⟨Kd.S_nil _ _ _ _ _⟩, HB⟩
 case round =>
  clear HQ HI BKgl BKge HB
  obtain ⟨i, acc, ys, v, hi, rfl, HQ, HI, BKgl, BKge, HS, HB⟩ := hrel
  obtain ⟨Al, cl, el⟩ := Kd.S_slice HS.out
  subst el
  by_cases hlt : i < b7.toNat
  ·have hltz : decide ((i : Int) < b7) = true := decide_eq_true (by omega)
   have hltz2 : (i : Int) < b7 := by omega
   obtain ⟨mm, hmm⟩ : ∃ mm, b7.toNat - i = mm + 1 := ⟨b7.toNat - i - 1, by omega⟩
   have hq := HQ.out
   rw [hmm, ship_Read.rows] at hq
   have HH := Aside0.mk hq
   have HMM := Aside0.mk hmm
   clear hq HQ hmm
   go_upto_region 6 with (fail)
   refine start_ (n := 6) (S := fun w' => w'.cell? ⟨gl, 0, none⟩ = some (.slice Al acc.length cl)) (ds := [5]) #[false, false, false, false, false, false] (by kernel_rfl) rfl rfl ((blk_cell BKgl.out 0).trans rfl) (fun hHeld => ?_)
   have hdr_ : ∀ B, Below B wr wr.drew := fun B => below_drew (Below.refl B wr)
   have z1_ := Aside0.mk (ship_in_take.holds_below HI.out (hdr_ _))
   have z2_ := Aside0.mk (blk_below BKgl.out (hdr_ _))
   have z3_ := Aside0.mk (HB.out.trans (hdr_ _))
   have z4_ := Aside0.mk (blk_below BKge.out (hdr_ _))
   have z6_ := Aside0.mk (Kd.S_drew HS.out)
   clear HI BKgl HB BKge HS hdr_
   have HI := z1_
   have BKgl := z2_
   have HB := z3_
   have BKge := z4_
   have HS := z6_
   clear z1_ z2_ z3_ z4_ z6_
   generalize wr.drew = wd at HI BKgl HB BKge HS hHeld ⊢
   refine pure_ (i := 1) (N := some 22) (v := ?_) (a' := ?_) #[false, true, false, false, false, false] rfl rfl (by kernel_rfl) (fun c_ a_ w_ h_ => ship_Read.put _ 22 _ (by decide) (by decide) c_ a_ w_ h_) (Or.inl ⟨by rfl, ?_⟩) ?_ ?_
   rotate_left
   ·intro w'
    go_simp
    with_reducible rfl
   rotate_left
   ·simp only [Act.put, List.setIfInBounds_toArray, List.set_cons_zero, List.set_cons_succ, i64_w, i32_w]
    rfl
   refine take_ (i := 0) (N := some 21) (v := ?_) (a' := ?_) #[true, true, false, false, false, false] rfl rfl (by kernel_rfl) (fun c_ a_ w_ h_ => ship_Read.put _ 21 _ (by decide) (by decide) c_ a_ w_ h_) (Or.inl ⟨by rfl, ?_⟩) hHeld ?_ ?_
   rotate_left
   ·intro w' s0
    go_simp
    with_reducible rfl
   rotate_left
   ·simp only [Act.put, List.setIfInBounds_toArray, List.set_cons_zero, List.set_cons_succ, i64_w, i32_w]
    rfl
   refine one_ (i := 2) (N := some 23) #[true, true, true, false, false, false] rfl rfl (by kernel_rfl) (by decide) (fun K hK => ?_)
   refine goesP_ Try.func33 (by kernel_rfl) rfl #[.pointer (some ⟨g, 0, none⟩)] (by rfl) rfl rfl (by (try simp only [List.map_toArray, List.map_cons, List.map_nil]); first | done | rfl) ?_
   refine (ship_in_row.cps k _ o _ g w _ HB.out GEg.out HI.out HH.out).mono ?_
   rintro e w7 (⟨x, l7, v7, hf, rfl, hR7, hh, hb, hs⟩ | ⟨ho, rfl, hb, hs⟩)
   rotate_left
   ·exact .inr ⟨_, rfl, (by obtain ⟨rfl, rfl⟩ := HN.out ho; exact ship_Read.fails w _ _ gl ge _ _ rfl rfl rfl (hs gl _ BKgl.out NGL.out) (hs ge _ BKge.out NGE.out) GEgl.out GEge.out hb)⟩
   refine .inl ⟨_, rfl, ?_⟩
   split at hf
   case isFalse => cases hf
   rename_i hal
   obtain ⟨A7, c7, e7⟩ := Kd.R_slice hR7
   subst e7
   have hglw := (Array.getElem?_eq_some_iff.1 BKgl.out).1
   have BL7 := Aside0.mk (hs gl _ BKgl.out NGL.out)
   have BE7 := Aside0.mk (hs ge _ BKge.out NGE.out)
   have HS7 := Aside0.mk (ship_Read.S_stays HS.out HI.out hs (by simp [k41, k43, Kd.iso, Kd.pair, Kd.int, Kd.scalar, Kd.slice]))
   have HLT := Aside0.mk (Kd.S_lt HS.out)
   have HR7 := Aside0.mk hR7
   have HQ7 := Aside0.mk hf
   have HI7 := Aside0.mk hh
   have HB7 := Aside0.mk hb
   have HAL := Aside0.mk hal
   have hgl7 := (Array.getElem?_eq_some_iff.1 BL7.out).1
   clear HI BKgl HB BKge HS HH hf hh hb hs hal hR7 hglw
   refine hK.out _ _ ((blk_cell BL7.out 0).trans rfl) (fun hHeld => ?_)
   clear hK K
   refine norm_ (a' := ?_) ?_ ?_
   rotate_left
   ·show Act.put _ (some 23) _ = _
    simp only [Act.put, List.setIfInBounds_toArray, List.set_cons_zero, List.set_cons_succ, i64_w, i32_w]
    rfl
   refine one_ (i := 3) (N := some 24) #[true, true, true, true, false, false] rfl rfl (by kernel_rfl) (by decide) (fun K hK => ?_)
   refine value_ (w1 := ?_) (v := ?_) (by rfl) rfl ?_ ?_
   rotate_left 2
   ·go_simp
    constructor
    ·rfl
    ·rfl
   refine hK.out _ _ ((World.cell?_alloc_past (w := w7) _ gl 0 hgl7).trans ((blk_cell BL7.out 0).trans rfl)) (fun hHeld => ?_)
   clear hK K
   refine norm_ (a' := ?_) ?_ ?_
   rotate_left
   ·show Act.put _ (some 24) _ = _
    simp only [Act.put, List.setIfInBounds_toArray, List.set_cons_zero, List.set_cons_succ, i64_w, i32_w]
    rfl
   refine one_ (i := 4) (N := some 25) #[true, true, true, true, true, false] rfl rfl (by kernel_rfl) (by decide) (fun K hK => ?_)
   refine Kd.S_append_step k41 (w0 := w) (W := w7) w.heap.size (by rfl) (.tmp 21) (.tmp 24) 22 41 (.agg #[(.int .i64 0), (.int .i64 0), (.int .i64 0), (.int .i64 0), (.slice none 0 0)]) 56 rfl Try.underlying22 info41 rfl (by decide) (by omega) (.slice Al acc.length cl) acc x [.int .i64 x.f0, .int .i64 x.f1, .int .i64 x.f2, .int .i64 x.f3, .slice A7 x.f4.length c7] (fun _ => True) (fun k => wd.heap.size ≤ k) rfl rfl ?hp ?hokp (fun _ _ => trivial) HS7.out HB7.out HB7.out.size (by have := HAL.out; omega) ?_
   case hp => exact k41_mkM _ _ _ _ HR7.out
   case hokp =>
    intro k hk
    refine ⟨trivial, fun e => ?_⟩
    have h8 := HLT.out k e.symm
    omega
   intro v1 w1 hr1 hb1 hg1 hat1
   obtain ⟨A8, c8, e8⟩ := Kd.S_slice hr1
   subst e8
   rw [show (acc ++ [x]).length = acc.length + 1 by simp] at hr1 ⊢
   have P1 : w1.heap[gl]? = _ := (hg1.block gl hgl7 (Kd.S_ne HS7.out BL7.out (by decide))).trans BL7.out
   have HP1 := Aside0.mk P1
   have HE1 := Aside0.mk ((hg1.block ge (Array.getElem?_eq_some_iff.1 BE7.out).1 (Kd.S_ne HS7.out BE7.out (by decide))).trans BE7.out)
   have HR1 := Aside0.mk hr1
   have HB1 := Aside0.mk hb1
   have HG1 := Aside0.mk hg1
   have hxc := blk_cell P1 0
   have hfc := blk_frozen P1
   refine hK.out _ _ ((blk_cell HP1.out 0).trans rfl) (fun hHeld => ?_)
   clear hK K
   refine norm_ (a' := ?_) ?_ ?_
   rotate_left
   ·show Act.put _ (some 25) _ = _
    simp only [Act.put, List.setIfInBounds_toArray, List.set_cons_zero, List.set_cons_succ, i64_w, i32_w]
    rfl
   refine last_ (i := 5) (N := none) #[true, true, true, true, true, true] rfl rfl (by kernel_rfl) (by decide) (fun K hK => ?_)
   refine skip_ (w1 := ?_) (by rfl) rfl ?_ ?_
   rotate_left
   ·go_simp
    rfl
   refine hK.out _ _ ?_
   clear hK K
   refine done_ (by kernel_rfl) ?_
   have hw2k : ∀ k, k ≠ gl → (w1.setCell ⟨gl, 0, none⟩ (.slice A8 (acc.length + 1) c8)).heap[k]? = w1.heap[k]? := fun k hk => Below.heap_setCell w1 ⟨gl, 0, none⟩ _ k hk
   have hgne : some g ≠ (Value.slice Al acc.length cl).ownBlock := by
    obtain ⟨_, _, h1, _⟩ := HI7.out
    exact Kd.S_ne HS7.out h1 (by decide)
   have hgle : gl ≠ ge := NBgl_ge.out
   have zI := ship_in_take.holds_other (ship_in_take.holds_grown HI7.out HG1.out hgne) NGL.out hw2k
   have zL : (w1.setCell ⟨gl, 0, none⟩ (.slice A8 (acc.length + 1) c8)).heap[gl]? = some (.cells #[.slice A8 (acc.length + 1) c8] 22 (0, 0)) := blk_put (cs' := #[.slice A8 (acc.length + 1) c8]) HP1.out 0 (.slice A8 (acc.length + 1) c8) rfl
   have zE : (w1.setCell ⟨gl, 0, none⟩ (.slice A8 (acc.length + 1) c8)).heap[ge]? = some (.cells #[.int .i64 0] 26 (0, 0)) := (hw2k ge (Ne.symm hgle)).trans HE1.out
   have zS := ship_Read.S_other HR1.out HP1.out (by simp [k41, k43, Kd.iso, Kd.pair, Kd.int, Kd.scalar, Kd.slice]) hw2k
   have zB : Below w.heap.size w (w1.setCell ⟨gl, 0, none⟩ (.slice A8 (acc.length + 1) c8)) := HB1.out.setCell (p := ⟨gl, 0, none⟩) GEgl.out _
   have zQ : ship_Read.rows k (b7.toNat - (i + 1)) (acc ++ [x]) l7 (fun l xs => some (some (l, xs))) = some o := by
    rw [show b7.toNat - (i + 1) = mm by have := HMM.out; omega]
    exact HQ7.out
   have ZI := Aside0.mk zI
   have ZL := Aside0.mk zL
   have ZE := Aside0.mk zE
   have ZS := Aside0.mk zS
   have ZB := Aside0.mk zB
   have ZQ := Aside0.mk zQ
   have hM9 := HM.out
   clear zI zL zE zB zS zQ hr1 hb1 hg1 hat1 P1
   go_wp2
   go_roundw
   case rel => exact ⟨i + 1, _, l7, _, by omega, by go_num, ZQ, ZI, ZL, ZE, ZS, ZB⟩
   case measure => simp [intOf]; omega
  ·have hge : decide ((i : Int) < b7) = false := decide_eq_false (by omega)
   have hge2 : ¬ (i : Int) < b7 := by omega
   have hq := HQ.out
   rw [show b7.toNat - i = 0 by omega, ship_Read.rows] at hq
   obtain rfl := Option.some.inj hq
   clear hq HQ HN
   have hxgl := blk_cell BKgl.out
   have hygl := blk_frozen BKgl.out
   have hxge := blk_cell BKge.out
   have hyge := blk_frozen BKge.out
   obtain ⟨Ag, cg, hg1, hg2, hg3⟩ := HI.out
   have BKg := Aside0.mk hg1
   have hxg := blk_cell hg1
   have hyg := blk_frozen hg1
   have HCG := Aside0.mk hg2
   clear hg1 hg2 hg3 HI
   have he := HE.out
   unfold ship_Read.last at he
   simp only at he
   cases ok
   ·simp only [Bool.false_eq_true, if_false, Option.some.injEq, Prod.mk.injEq] at he
    obtain ⟨rfl, rfl⟩ := he
    clear HE HS
    have P0 : (wr.setCell ⟨gl, 0, none⟩ (.slice none 0 0)).heap[ge]? = some (.cells #[.int .i64 0] 26 (0, 0)) := (Below.heap_setCell wr ⟨gl, 0, none⟩ _ ge (Ne.symm NBgl_ge.out)).trans BKge.out
    have hxg2 := blk_cell P0
    have hyg2 := blk_frozen P0
    go_wp2
    exact ship_Read.puts w _ _ gl ge _ _ _ _ _ rfl rfl rfl BKgl.out BKge.out NBgl_ge.out GEgl.out GEge.out rfl (Kd.S_nil _ _ _ _ _) HB.out
   ·rw [if_pos rfl] at he
    by_cases hz : ys.length = 0
    ·rw [if_pos hz] at he
     have hzd : decide ((0 : Int) < (ys.length : Int)) = false := decide_eq_false (by omega)
     have hzd2 : ¬ (0 : Int) < (ys.length : Int) := by omega
     obtain ⟨b, hb, he⟩ := Option.bind_eq_some_iff.mp he
     have HKK := Aside0.mk hb
     cases b
     ·simp only [Bool.false_eq_true, if_false, Option.some.injEq, Prod.mk.injEq] at he
      obtain ⟨rfl, rfl⟩ := he
      obtain ⟨Ac, cc, ec, hc1, hc2⟩ := Kd.S_reads HS.out
      obtain ⟨rfl, -, rfl⟩ : Al = Ac ∧ acc.length = acc.length ∧ cl = cc := by simpa using ec
      have HCS := Aside0.mk hc2
      have HCL := Aside0.mk hc1
      clear hc1 hc2 ec
      clear HE hb
      go_wp2_with (first | (go_at_call 13; (with_reducible refine (ship_Check.calls Al cl acc _ _ HCS.out HCL.out HKK.out).mono ?_); rintro e w8 ⟨rfl, hb8⟩; have z1_ := Aside0.mk (blk_below BKgl.out hb8); have z2_ := Aside0.mk (blk_below BKge.out hb8); have z3_ := Aside0.mk (below_step HB.out hb8); have z4_ := Aside0.mk (Kd.S_below HS.out hb8); clear BKgl hxgl hygl BKge hxge hyge HB BKg hxg hyg HS HCS; have BKgl := z1_; have hxgl := blk_cell z1_.out; have hygl := blk_frozen z1_.out; have BKge := z2_; have hxge := blk_cell z2_.out; have hyge := blk_frozen z2_.out; have HB := z3_; have HS := z4_; clear z1_ z2_ z3_ z4_ hb8; have P0 : (w8.setCell ⟨gl, 0, none⟩ (.slice none 0 0)).heap[ge]? = some (.cells #[.int .i64 0] 26 (0, 0)) := (Below.heap_setCell w8 ⟨gl, 0, none⟩ _ ge (Ne.symm NBgl_ge.out)).trans BKge.out; have hxg2 := blk_cell P0; have hyg2 := blk_frozen P0))
      exact ship_Read.puts w _ _ gl ge _ _ _ _ _ rfl rfl rfl BKgl.out BKge.out NBgl_ge.out GEgl.out GEge.out rfl (Kd.S_nil _ _ _ _ _) HB.out
     ·simp only [if_true, Option.some.injEq, Prod.mk.injEq] at he
      obtain ⟨rfl, rfl⟩ := he
      obtain ⟨Ac, cc, ec, hc1, hc2⟩ := Kd.S_reads HS.out
      obtain ⟨rfl, -, rfl⟩ : Al = Ac ∧ acc.length = acc.length ∧ cl = cc := by simpa using ec
      have HCS := Aside0.mk hc2
      have HCL := Aside0.mk hc1
      clear hc1 hc2 ec
      clear HE hb
      go_wp2_with (first | (go_at_call 13; (with_reducible refine (ship_Check.calls Al cl acc _ _ HCS.out HCL.out HKK.out).mono ?_); rintro e w8 ⟨rfl, hb8⟩; have z1_ := Aside0.mk (blk_below BKgl.out hb8); have z2_ := Aside0.mk (blk_below BKge.out hb8); have z3_ := Aside0.mk (below_step HB.out hb8); have z4_ := Aside0.mk (Kd.S_below HS.out hb8); clear BKgl hxgl hygl BKge hxge hyge HB BKg hxg hyg HS HCS; have BKgl := z1_; have hxgl := blk_cell z1_.out; have hygl := blk_frozen z1_.out; have BKge := z2_; have hxge := blk_cell z2_.out; have hyge := blk_frozen z2_.out; have HB := z3_; have HS := z4_; clear z1_ z2_ z3_ z4_ hb8; have P0 : (w8.setCell ⟨gl, 0, none⟩ (.slice Al acc.length cl)).heap[ge]? = some (.cells #[.int .i64 0] 26 (0, 0)) := (Below.heap_setCell w8 ⟨gl, 0, none⟩ _ ge (Ne.symm NBgl_ge.out)).trans BKge.out; have hxg2 := blk_cell P0; have hyg2 := blk_frozen P0))
      exact ship_Read.puts w _ _ gl ge _ _ _ _ _ rfl rfl rfl BKgl.out BKge.out NBgl_ge.out GEgl.out GEge.out rfl HS.out HB.out
    ·rw [if_neg hz] at he
     have hzd : decide ((0 : Int) < (ys.length : Int)) = true := decide_eq_true (by omega)
     have hzd2 : (0 : Int) < (ys.length : Int) := by omega
     simp only [Option.some.injEq, Prod.mk.injEq] at he
     obtain ⟨rfl, rfl⟩ := he
     clear HE HS
     have P0 : (wr.setCell ⟨gl, 0, none⟩ (.slice none 0 0)).heap[ge]? = some (.cells #[.int .i64 0] 26 (0, 0)) := (Below.heap_setCell wr ⟨gl, 0, none⟩ _ ge (Ne.symm NBgl_ge.out)).trans BKge.out
     have hxg2 := blk_cell P0
     have hyg2 := blk_frozen P0
     go_wp2
     exact ship_Read.puts w _ _ gl ge _ _ _ _ _ rfl rfl rfl BKgl.out BKge.out NBgl_ge.out GEgl.out GEge.out rfl (Kd.S_nil _ _ _ _ _) HB.out


end Go.Proofs.Ytihiiidbhhlfnaa.G
