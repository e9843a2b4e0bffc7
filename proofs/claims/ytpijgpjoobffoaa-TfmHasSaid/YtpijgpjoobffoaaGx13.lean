/- Contracts of the functions of this seat: what each call computes, as a plain Lean function. Made by this session's own generator. -/
import Derived.Test.YtpijgpjoobffoaaGx0
import Derived.Test.YtpijgpjoobffoaaGx6
import Derived.Test.YtpijgpjoobffoaaGx10
import Derived.Test.YtpijgpjoobffoaaGx11
import Derived.Test.YtpijgpjoobffoaaGx12
namespace Go.Proofs.Ytpijgpjoobffoaa.G
open Go.RowKit Go.Proofs.YtpijgpjoobffoaaMy Go.Proofs.YtpijgpjoobffoaaW.PrintWords Go.Proofs.YtpijgpjoobffoaaW.PrintLast Go.Proofs.YtpijgpjoobffoaaW.PrintMore
attribute [local go_sem] max2_int min2_int max_two min_two max_three min_three max_four min_four   -- for this text's walks alone
set_option linter.unusedVariables false
set_option linter.unusedSimpArgs false

/-! ### tfm_Read: function 17 -/
-- by hand
abbrev tfm_Read.Out := Int × Int × Int × List S42 × List Int × List Int × List Int × List Int × List S51 × List Int × List Int × Int
def tfm_Read.fail : tfm_Read.Out := (0, 0, 0, [], [], [], [], [], [], [], [], 70)
def tfm_Read.manys (k : Nat) : Nat → List Int → Bool → List Int → Option (List Int × List Int × Bool)
 | 0, xs, bad, acc => some (acc, xs, bad)
 | m + 1, xs, bad, acc => (tfm_in_take.f k 2 xs bad).bind fun t => tfm_Read.manys k m t.2.1 t.2.2 (acc ++ [t.1])
def tfm_Read.char (x : List Int) : S42 := ⟨wrap64 (x.getD 0 0), wrap64 (x.getD 1 0 / 16), wrap64 (Go.bits .and .u8 (x.getD 1 0) 15), wrap64 (x.getD 2 0 / 4), wrap64 (Go.bits .and .u8 (x.getD 2 0) 3), wrap64 (x.getD 3 0)⟩
def tfm_Read.step (x : List Int) : S51 := ⟨wrap64 (x.getD 0 0), wrap64 (x.getD 1 0), wrap64 (x.getD 2 0), wrap64 (x.getD 3 0)⟩
def tfm_Read.end_ (k : Nat) (n1 n2 n3 : Int) (cs : List S42) (ws hs ds is : List Int) (ss : List S51) (ks ps : List Int) (xs : List Int) (bad : Bool) : Option tfm_Read.Out :=
 if bad = true then some tfm_Read.fail else if xs.length > 0 then some tfm_Read.fail else (tfm_Check.f k n1 n2 n3 cs ws hs ds is ss ks ps).bind fun c => if c = true then some (n1, n2, n3, cs, ws, hs, ds, is, ss, ks, ps, 0) else some tfm_Read.fail
def tfm_Read.four_ (k : Nat) (m : List Int) : Nat → Nat → List Int → Bool → List (List Int) → Option (List (List Int) × List Int × Bool)
 | 0, _, xs, bad, acc => some (acc, xs, bad)
 | n + 1, i, xs, bad, acc => (tfm_in_fixes.f k (m.getD i 0).toNat xs bad []).bind fun t => tfm_Read.four_ k m n (i + 1) t.2.1 t.2.2 (acc ++ [t.1])
def tfm_Read.tables (k : Nat) (n1 n2 n3 : Int) (z : Int) (m : List Int) (xs : List Int) (bad : Bool) : Option tfm_Read.Out :=
 if z < 1000000 ∧ (m.all fun n => decide (n < 1000000)) = true then
  (tfm_Read.four_ k m 4 0 (tfm_in_each.f z.toNat xs bad []).2.1 (tfm_in_each.f z.toNat xs bad []).2.2 []).bind fun t3 =>
  (tfm_in_fixes.f k (m.getD 5 0).toNat (tfm_in_each.f (m.getD 4 0).toNat t3.2.1 t3.2.2 []).2.1 (tfm_in_each.f (m.getD 4 0).toNat t3.2.1 t3.2.2 []).2.2 []).bind fun t5 => (tfm_in_fixes.f k (m.getD 7 0).toNat t5.2.1 t5.2.2 []).bind fun t6 =>
  tfm_Read.end_ k n1 n2 n3 ((tfm_in_each.f z.toNat xs bad []).1.map tfm_Read.char) (t3.1.getD 0 []) (t3.1.getD 1 []) (t3.1.getD 2 []) (t3.1.getD 3 []) ((tfm_in_each.f (m.getD 4 0).toNat t3.2.1 t3.2.2 []).1.map tfm_Read.step) t5.1 t6.1 t6.2.1 t6.2.2
 else none
def tfm_Read.tail (k : Nat) (first last : Int) (m : List Int) (xs : List Int) (bad : Bool) : Option tfm_Read.Out :=
 if last < first then some tfm_Read.fail else if m.getD 6 0 = 0 then (tfm_in_take.f k 4 xs bad).bind fun s => (tfm_in_take.f k 4 s.2.1 s.2.2).bind fun d => tfm_Read.tables k s.1 d.1 first (wrap64 (wrap64 (last - first) + 1)) m d.2.1 d.2.2 else some tfm_Read.fail
def tfm_Read.f (k : Nat) (l0 : List Int) : Option (Int × Int × Int × List S42 × List Int × List Int × List Int × List Int × List S51 × List Int × List Int × Int) :=
 if (l0.length : Int) % 4 = 0 then (tfm_in_take.f k 2 l0 false).bind fun t1 => if t1.1 = (l0.length : Int) / 4 then (tfm_in_take.f k 2 t1.2.1 t1.2.2).bind fun t2 => if t2.1 = 2 then (tfm_in_take.f k 2 t2.2.1 t2.2.2).bind fun t3 => (tfm_in_take.f k 2 t3.2.1 t3.2.2).bind fun t4 => (tfm_Read.manys k 8 t4.2.1 t4.2.2 []).bind fun m => tfm_Read.tail k t3.1 t4.1 m.1 m.2.1 m.2.2 else some tfm_Read.fail else some tfm_Read.fail else some tfm_Read.fail
theorem tfm_Read.mono_manys (k : Nat) : ∀ (m : Nat) (xs : List Int) (bad : Bool) (acc : List Int), LeO (tfm_Read.manys k m xs bad acc) (tfm_Read.manys (k + 1) m xs bad acc)
 | 0, _, _, _ => LeO.refl _
 | m + 1, _, _, _ => LeO.bind (tfm_in_take.mono _ _ _ _) (fun _ => tfm_Read.mono_manys k m _ _ _)
theorem tfm_Read.mono_four (k : Nat) (m : List Int) : ∀ (n i : Nat) (xs : List Int) (bad : Bool) (acc : List (List Int)), LeO (tfm_Read.four_ k m n i xs bad acc) (tfm_Read.four_ (k + 1) m n i xs bad acc)
 | 0, _, _, _, _ => LeO.refl _
 | n + 1, _, _, _, _ => LeO.bind (tfm_in_fixes.mono _ _ _ _ _) (fun _ => tfm_Read.mono_four k m n _ _ _ _)
theorem tfm_Read.mono : ∀ l0 k, LeO (tfm_Read.f k l0) (tfm_Read.f (k + 1) l0) := by
 intro l0 k
 unfold tfm_Read.f tfm_Read.tail tfm_Read.tables tfm_Read.end_
 repeat' first
 | exact tfm_in_take.mono _ _ _ _
 | exact tfm_in_fixes.mono _ _ _ _ _
 | exact tfm_Read.mono_four _ _ _ _ _ _ _
 | exact tfm_Read.mono_manys _ _ _ _ _
 | exact tfm_Check.mono _ _ _ _ _ _ _ _ _ _ _ _
 | exact LeO.refl _
 | refine LeO.ite ?_ ?_
 | refine LeO.bind ?_ (fun _ => ?_)
theorem tfm_Read.set_take : ∀ (L : List Int) (i : Nat) (n : Int), i < L.length → (L.set i n).take (i + 1) = L.take i ++ [n]
 | [], _, _, h => absurd h (by simp)
 | x :: L, 0, n, _ => by simp
 | x :: L, i + 1, n, h => by
  have := tfm_Read.set_take L i n (by simpa using h)
  simp only [List.set_cons_succ, List.take_succ_cons, List.cons_append, this]
theorem tfm_Read.at8 (L : List Int) (i : Nat) (h : i < L.length) : (L.map fun n => Value.int .i64 n).toArray[i]? = some (.int .i64 (L.getD i 0)) := by simp [List.getD_eq_getElem?_getD, h]
/-- A store into the font, or into the eight numbers. -/
theorem tfm_Read.keeps_one {w0 u u' : World} {gf t : Nat} {cs : Array Value} (hk : ∀ k, k ≠ gf → u'.heap[k]? = u.heap[k]?) (hs : u.heap.size ≤ u'.heap.size) (hb : w0.heap.size ≤ gf) (hg : u.heap[gf]? = some (.cells cs t (0, 0))) (ht : t = 26 ∨ t = 66) : tfm_in_take.Keeps w0 u u' := by
 refine ⟨hs, fun k h => hk k (by omega), fun k cs' t' fr h h1 h2 h3 h4 h5 => hk k (fun e => ?_)⟩
 subst e
 rw [hg] at h
 simp only [Option.some.injEq, Obj.cells.injEq] at h
 rcases ht with rfl | rfl
 ·exact h2 h.2.1.symm
 ·exact h5 h.2.1.symm
theorem tfm_Read.stored {W w : World} {b g t : Nat} {c0 c1 c2 c3 c4 c5 c6 c7 c8 c9 c10 d0 d1 d2 d3 d4 d5 d6 d7 d8 d9 d10 : Value} (h : W.heap[g]? = some (.cells #[c0, c1, c2, c3, c4, c5, c6, c7, c8, c9, c10] t (0, 0))) (hB : Below b w W) (hg : b ≤ g) :
  (((((((((((W.setCell ⟨g, 0, none⟩ d0).setCell ⟨g, 1, none⟩ d1).setCell ⟨g, 2, none⟩ d2).setCell ⟨g, 3, none⟩ d3).setCell ⟨g, 4, none⟩ d4).setCell ⟨g, 5, none⟩ d5).setCell ⟨g, 6, none⟩ d6).setCell ⟨g, 7, none⟩ d7).setCell ⟨g, 8, none⟩ d8).setCell ⟨g, 9, none⟩ d9).setCell ⟨g, 10, none⟩ d10).heap[g]? = some (.cells #[d0, d1, d2, d3, d4, d5, d6, d7, d8, d9, d10] t (0, 0)) ∧ Below b w (((((((((((W.setCell ⟨g, 0, none⟩ d0).setCell ⟨g, 1, none⟩ d1).setCell ⟨g, 2, none⟩ d2).setCell ⟨g, 3, none⟩ d3).setCell ⟨g, 4, none⟩ d4).setCell ⟨g, 5, none⟩ d5).setCell ⟨g, 6, none⟩ d6).setCell ⟨g, 7, none⟩ d7).setCell ⟨g, 8, none⟩ d8).setCell ⟨g, 9, none⟩ d9).setCell ⟨g, 10, none⟩ d10) ∧ (∀ k, k ≠ g → (((((((((((W.setCell ⟨g, 0, none⟩ d0).setCell ⟨g, 1, none⟩ d1).setCell ⟨g, 2, none⟩ d2).setCell ⟨g, 3, none⟩ d3).setCell ⟨g, 4, none⟩ d4).setCell ⟨g, 5, none⟩ d5).setCell ⟨g, 6, none⟩ d6).setCell ⟨g, 7, none⟩ d7).setCell ⟨g, 8, none⟩ d8).setCell ⟨g, 9, none⟩ d9).setCell ⟨g, 10, none⟩ d10).heap[k]? = W.heap[k]?) :=
 ⟨(blk_put (cs' := #[d0, d1, d2, d3, d4, d5, d6, d7, d8, d9, d10]) (blk_put (cs' := #[d0, d1, d2, d3, d4, d5, d6, d7, d8, d9, c10]) (blk_put (cs' := #[d0, d1, d2, d3, d4, d5, d6, d7, d8, c9, c10]) (blk_put (cs' := #[d0, d1, d2, d3, d4, d5, d6, d7, c8, c9, c10]) (blk_put (cs' := #[d0, d1, d2, d3, d4, d5, d6, c7, c8, c9, c10]) (blk_put (cs' := #[d0, d1, d2, d3, d4, d5, c6, c7, c8, c9, c10]) (blk_put (cs' := #[d0, d1, d2, d3, d4, c5, c6, c7, c8, c9, c10]) (blk_put (cs' := #[d0, d1, d2, d3, c4, c5, c6, c7, c8, c9, c10]) (blk_put (cs' := #[d0, d1, d2, c3, c4, c5, c6, c7, c8, c9, c10]) (blk_put (cs' := #[d0, d1, c2, c3, c4, c5, c6, c7, c8, c9, c10]) (blk_put (cs' := #[d0, c1, c2, c3, c4, c5, c6, c7, c8, c9, c10]) h 0 d0 rfl) 1 d1 rfl) 2 d2 rfl) 3 d3 rfl) 4 d4 rfl) 5 d5 rfl) 6 d6 rfl) 7 d7 rfl) 8 d8 rfl) 9 d9 rfl) 10 d10 rfl), (((((((((((hB.setCell (p := ⟨g, 0, none⟩) hg d0).setCell (p := ⟨g, 1, none⟩) hg d1).setCell (p := ⟨g, 2, none⟩) hg d2).setCell (p := ⟨g, 3, none⟩) hg d3).setCell (p := ⟨g, 4, none⟩) hg d4).setCell (p := ⟨g, 5, none⟩) hg d5).setCell (p := ⟨g, 6, none⟩) hg d6).setCell (p := ⟨g, 7, none⟩) hg d7).setCell (p := ⟨g, 8, none⟩) hg d8).setCell (p := ⟨g, 9, none⟩) hg d9).setCell (p := ⟨g, 10, none⟩) hg d10), fun k hk => ((Below.heap_setCell ((((((((((W.setCell ⟨g, 0, none⟩ d0).setCell ⟨g, 1, none⟩ d1).setCell ⟨g, 2, none⟩ d2).setCell ⟨g, 3, none⟩ d3).setCell ⟨g, 4, none⟩ d4).setCell ⟨g, 5, none⟩ d5).setCell ⟨g, 6, none⟩ d6).setCell ⟨g, 7, none⟩ d7).setCell ⟨g, 8, none⟩ d8).setCell ⟨g, 9, none⟩ d9) ⟨g, 10, none⟩ d10 k hk).trans ((Below.heap_setCell (((((((((W.setCell ⟨g, 0, none⟩ d0).setCell ⟨g, 1, none⟩ d1).setCell ⟨g, 2, none⟩ d2).setCell ⟨g, 3, none⟩ d3).setCell ⟨g, 4, none⟩ d4).setCell ⟨g, 5, none⟩ d5).setCell ⟨g, 6, none⟩ d6).setCell ⟨g, 7, none⟩ d7).setCell ⟨g, 8, none⟩ d8) ⟨g, 9, none⟩ d9 k hk).trans ((Below.heap_setCell ((((((((W.setCell ⟨g, 0, none⟩ d0).setCell ⟨g, 1, none⟩ d1).setCell ⟨g, 2, none⟩ d2).setCell ⟨g, 3, none⟩ d3).setCell ⟨g, 4, none⟩ d4).setCell ⟨g, 5, none⟩ d5).setCell ⟨g, 6, none⟩ d6).setCell ⟨g, 7, none⟩ d7) ⟨g, 8, none⟩ d8 k hk).trans ((Below.heap_setCell (((((((W.setCell ⟨g, 0, none⟩ d0).setCell ⟨g, 1, none⟩ d1).setCell ⟨g, 2, none⟩ d2).setCell ⟨g, 3, none⟩ d3).setCell ⟨g, 4, none⟩ d4).setCell ⟨g, 5, none⟩ d5).setCell ⟨g, 6, none⟩ d6) ⟨g, 7, none⟩ d7 k hk).trans ((Below.heap_setCell ((((((W.setCell ⟨g, 0, none⟩ d0).setCell ⟨g, 1, none⟩ d1).setCell ⟨g, 2, none⟩ d2).setCell ⟨g, 3, none⟩ d3).setCell ⟨g, 4, none⟩ d4).setCell ⟨g, 5, none⟩ d5) ⟨g, 6, none⟩ d6 k hk).trans ((Below.heap_setCell (((((W.setCell ⟨g, 0, none⟩ d0).setCell ⟨g, 1, none⟩ d1).setCell ⟨g, 2, none⟩ d2).setCell ⟨g, 3, none⟩ d3).setCell ⟨g, 4, none⟩ d4) ⟨g, 5, none⟩ d5 k hk).trans ((Below.heap_setCell ((((W.setCell ⟨g, 0, none⟩ d0).setCell ⟨g, 1, none⟩ d1).setCell ⟨g, 2, none⟩ d2).setCell ⟨g, 3, none⟩ d3) ⟨g, 4, none⟩ d4 k hk).trans ((Below.heap_setCell (((W.setCell ⟨g, 0, none⟩ d0).setCell ⟨g, 1, none⟩ d1).setCell ⟨g, 2, none⟩ d2) ⟨g, 3, none⟩ d3 k hk).trans ((Below.heap_setCell ((W.setCell ⟨g, 0, none⟩ d0).setCell ⟨g, 1, none⟩ d1) ⟨g, 2, none⟩ d2 k hk).trans ((Below.heap_setCell (W.setCell ⟨g, 0, none⟩ d0) ⟨g, 1, none⟩ d1 k hk).trans ((Below.heap_setCell W ⟨g, 0, none⟩ d0 k hk).trans (rfl : W.heap[k]? = W.heap[k]?))))))))))))⟩
/-- Rows of numbers of the call's own, each apart from the others. -/
def tfm_Read.Rows (w u : World) (us : List Value) (ls : List (List Int)) : Prop :=
 us.length = ls.length ∧ (∀ (j : Nat) (v : Value) (l : List Int), us[j]? = some v → ls[j]? = some l → Kd.R (Kd.int .i64) 3 u w.heap.size (fun _ => True) v l) ∧ (∀ (i j : Nat) (v v' : Value), i ≠ j → us[i]? = some v → us[j]? = some v' → ∀ k, v.ownBlock = some k → v'.ownBlock ≠ some k)
theorem tfm_Read.rows_keep {w u u' : World} {us : List Value} {ls : List (List Int)} (h : tfm_Read.Rows w u us ls) (hk : ∀ (k : Nat) (cells : Array Value), u.heap[k]? = some (Obj.cells cells 3 (0, 0)) → u'.heap[k]? = u.heap[k]?) : tfm_Read.Rows w u' us ls :=
 ⟨h.1, fun j v l hv hl => by
  have h1 := h.2.1 j v l hv hl
  exact Kd.R_mono (Kd.R_step (Kd.R_tight rfl h1) (fun i hi _ => by
   obtain ⟨cells, hcs⟩ := Kd.R_typed h1 i hi.symm
   exact hk i cells hcs)) (fun _ _ => trivial), h.2.2⟩
theorem tfm_Read.rows_lt {w u : World} {us : List Value} {ls : List (List Int)} (h : tfm_Read.Rows w u us ls) : ∀ (j : Nat) (v : Value), us[j]? = some v → ∀ k, v.ownBlock = some k → k < u.heap.size := fun j v hv k hk => by
 have hj : j < us.length := (List.getElem?_eq_some_iff.1 hv).1
 have hj2 : j < ls.length := by rw [← h.1]; exact hj
 have hl : ls[j]? = some ls[j] := List.getElem?_eq_getElem hj2
 exact Kd.R_lt (h.2.1 j v _ hv hl) k hk
theorem tfm_Read.rows_snoc {w u : World} {b : Nat} {us : List Value} {ls : List (List Int)} {v : Value} {l : List Int} (h : tfm_Read.Rows w u us ls) (hr : Kd.R (Kd.int .i64) 3 u w.heap.size (fun k => b ≤ k) v l) (hlt : ∀ (j : Nat) (v' : Value), us[j]? = some v' → ∀ k, v'.ownBlock = some k → k < b) : tfm_Read.Rows w u (us ++ [v]) (ls ++ [l]) := by
 have cut : ∀ {α : Type} {xs : List α} {x y : α} {j : Nat}, (xs ++ [x])[j]? = some y → (j < xs.length ∧ xs[j]? = some y) ∨ (j = xs.length ∧ x = y) := fun {α xs x y j} hj => by
  by_cases hjl : j < xs.length
  ·exact .inl ⟨hjl, by rw [List.getElem?_append_left hjl] at hj; exact hj⟩
  ·rw [List.getElem?_append_right (by omega)] at hj
   have h0 : j - xs.length = 0 := by
    have := (List.getElem?_eq_some_iff.1 hj).1
    simp at this
    omega
   rw [h0] at hj
   exact .inr ⟨by omega, by simpa using hj⟩
 refine ⟨by simp [h.1], fun j v1 l1 hv hl => ?_, fun i j v1 v2 hij hv1 hv2 k hk => ?_⟩
 ·rcases cut hv with ⟨a1, a2⟩ | ⟨a1, a2⟩ <;> rcases cut hl with ⟨b1, b2⟩ | ⟨b1, b2⟩
  ·exact h.2.1 j v1 l1 a2 b2
  ·exact absurd a1 (by rw [h.1]; omega)
  ·exact absurd b1 (by rw [← h.1]; omega)
  ·subst a2 b2
   exact Kd.R_mono hr (fun _ _ => trivial)
 ·rcases cut hv1 with ⟨a1, a2⟩ | ⟨a1, a2⟩ <;> rcases cut hv2 with ⟨b1, b2⟩ | ⟨b1, b2⟩
  ·exact h.2.2 i j v1 v2 hij a2 b2 k hk
  ·subst b2
   have h1 := hlt i v1 a2 k hk
   exact fun e => by have := hr.1 k e; omega
  ·subst a2
   have h1 := hr.1 k hk
   exact fun e => by have := hlt j v2 b2 k e; omega
  ·omega
theorem tfm_Read.rows_nil (w u : World) : tfm_Read.Rows w u [] [] := ⟨rfl, fun j v l h _ => by simp at h, fun i j v v' _ h _ => by simp at h⟩
theorem tfm_Read.st_set {w u u' : World} {g : Nat} {us : List Value} {ls : List (List Int)} {cs : Array Value} (h : tfm_Read.Rows w u us ls) (hs : tfm_in_take.Stays g u u') (hg : u.heap[g]? = some (.cells cs 64 (0, 0))) : tfm_Read.Rows w u' us ls :=
 tfm_Read.rows_keep h (fun k cells hk => by
  rw [hk]
  refine hs.2 k _ hk (fun e => ?_)
  subst e
  rw [hg] at hk
  simp at hk)
theorem tfm_Read.rows_font {w u : World} {gf j : Nat} {v : Value} {us : List Value} {ls : List (List Int)} {cs : Array Value} (h : tfm_Read.Rows w u us ls) (hg : u.heap[gf]? = some (.cells cs 26 (0, 0))) : tfm_Read.Rows w (u.setCell ⟨gf, j, none⟩ v) us ls :=
 tfm_Read.rows_keep h (fun k cells hk => Below.heap_setCell u ⟨gf, j, none⟩ v k (fun e => by
  subst e
  rw [hg] at hk
  simp at hk))
/-- A row of characters, or of steps, stays. -/
theorem tfm_Read.R_st {α : Type} {d : Kd α} {e base g : Nat} {ok : Nat → Prop} {v : Value} {xs : List α} {u u' : World} {cs : Array Value} (h : Kd.R d e u base ok v xs) (hE : d.E = []) (hs : tfm_in_take.Stays g u u') (hg : u.heap[g]? = some (.cells cs 64 (0, 0))) (he : e ≠ 64) : Kd.R d e u' base ok v xs :=
 Kd.R_mono (Kd.R_step (Kd.R_tight hE h) (fun i hi _ => by
  obtain ⟨cells, hcs⟩ := Kd.R_typed h i hi.symm
  rw [hcs]
  refine hs.2 i _ hcs (fun e2 => ?_)
  subst e2
  rw [hg] at hcs
  simp only [Option.some.injEq, Obj.cells.injEq] at hcs
  exact he hcs.2.1.symm)) (fun i hi => h.1 i hi.symm)
theorem tfm_Read.R_font {α : Type} {d : Kd α} {e base gf j : Nat} {ok : Nat → Prop} {v v2 : Value} {xs : List α} {u : World} {cs : Array Value} (h : Kd.R d e u base ok v xs) (hE : d.E = []) (hg : u.heap[gf]? = some (.cells cs 26 (0, 0))) (he : e ≠ 26) : Kd.R d e (u.setCell ⟨gf, j, none⟩ v2) base ok v xs :=
 Kd.R_mono (Kd.R_step (Kd.R_tight hE h) (fun i hi _ => Below.heap_setCell u ⟨gf, j, none⟩ v2 i (fun e2 => Kd.R_ne h hg he (by have e3 : i = gf := e2; rw [← e3]; exact hi)))) (fun i hi => h.1 i hi.symm)
/-- What a store into the font leaves. -/
theorem tfm_Read.holds_font {w u : World} {g gf j : Nat} {v : Value} {xs : List Int} {bad : Bool} {cs : Array Value} (h : tfm_in_take.Holds w u g xs bad) (hb : w.heap.size ≤ gf) (hn : gf ≠ g) (hg : u.heap[gf]? = some (.cells cs 26 (0, 0))) : tfm_in_take.Holds w (u.setCell ⟨gf, j, none⟩ v) g xs bad :=
 tfm_in_take.holds_keeps h (tfm_Read.keeps_one (fun k hk => Below.heap_setCell u ⟨gf, j, none⟩ v k hk) (Nat.le_of_eq (World.size_setCell u _ _).symm) hb hg (.inl rfl)) (Below.heap_setCell u ⟨gf, j, none⟩ v g (Ne.symm hn))
theorem tfm_Read.holds_in {w u : World} {g : Nat} {xs : List Int} {bad : Bool} (h : tfm_in_take.Holds w u g xs bad) : ∃ cs, u.heap[g]? = some (.cells cs 64 (0, 0)) := by
 obtain ⟨_, _, h1, _⟩ := h
 exact ⟨_, h1⟩
theorem tfm_Read.of_six {w u : World} {v4 v5 v6 v7 v9 v10 : Value} {l4 l5 l6 l7 l9 l10 : List Int} (h : tfm_Read.Rows w u [v4, v5, v6, v7, v9, v10] [l4, l5, l6, l7, l9, l10]) (j : Nat) (v : Value) (l : List Int) (hv : [v4, v5, v6, v7, v9, v10][j]? = some v) (hl : [l4, l5, l6, l7, l9, l10][j]? = some l) (ok : Nat → Prop) (hok : ∀ k, (∀ (i : Nat) (v' : Value), i ≠ j → [v4, v5, v6, v7, v9, v10][i]? = some v' → some k ≠ v'.ownBlock) → ok k) : Kd.R (Kd.int .i64) 3 u w.heap.size ok v l :=
 Kd.R_mono (Kd.R_tight rfl (h.2.1 j v l hv hl)) (fun k hk => hok k (fun i v' hij hv' e => h.2.2 j i v v' (Ne.symm hij) hv hv' k hk.symm e.symm))
theorem tfm_Read.fourV {x : List Value} (h : x.length = 4) : ∃ a b c d, x = [a, b, c, d] :=
 match x, h with
 | [a, b, c, d], _ => ⟨a, b, c, d, rfl⟩
theorem tfm_Read.fourL {x : List (List Int)} (h : x.length = 4) : ∃ a b c d, x = [a, b, c, d] :=
 match x, h with
 | [a, b, c, d], _ => ⟨a, b, c, d, rfl⟩
/-- The row of characters stays while steps are taken. -/
theorem tfm_Read.X_q {u1 u2 : World} {gf base : Nat} {v : Value} {xs : List S42} {cf : Array Value} (hX : Kd.R k42 42 u1 base (fun _ => True) v xs) (hf : u1.heap[gf]? = some (.cells cf 26 (0, 0))) (hp : ∀ (k : Nat) (cs : Array Value) (t : TypeId) (fr : Nat × Nat), u1.heap[k]? = some (Obj.cells cs t fr) → k ≠ gf → t ≠ 51 → u2.heap[k]? = u1.heap[k]?) : Kd.R k42 42 u2 base (fun _ => True) v xs :=
 Kd.R_mono (Kd.R_step (Kd.R_tight rfl hX) (fun i hi _ => by
  obtain ⟨cells, hcs⟩ := Kd.R_typed hX i hi.symm
  exact hp i cells _ _ hcs (fun e => by subst e; rw [hcs] at hf; simp at hf) (by decide))) (fun _ _ => trivial)
theorem tfm_Read.font_at (P : List Value) (nilv : Value) (us : List Value) (i : Nat) (hu : us.length = i) (hi : i < 7) (hP : P.length = 4 := by rfl) : (P ++ us ++ List.replicate (7 - i) nilv).toArray[4 + i]? = some nilv := by
 have h1 : (P ++ us).length = 4 + i := by rw [List.length_append, hP, hu]
 rw [List.getElem?_toArray, List.getElem?_append_right (by omega), h1, Nat.sub_self, List.getElem?_replicate, if_pos (by omega)]
theorem tfm_Read.font_set (P : List Value) (nilv : Value) (us : List Value) (v : Value) (i : Nat) (hu : us.length = i) (hi : i < 7) (hP : P.length = 4 := by rfl) : (P ++ us ++ List.replicate (7 - i) nilv).toArray.setIfInBounds (4 + i) v = (P ++ (us ++ [v]) ++ List.replicate (7 - (i + 1)) nilv).toArray := by
 have h1 : (P ++ us).length = 4 + i := by rw [List.length_append, hP, hu]
 obtain ⟨m, hm⟩ : ∃ m, 7 - i = m + 1 := ⟨7 - i - 1, by omega⟩
 rw [List.setIfInBounds_toArray, List.set_append_right _ _ (by omega), h1, Nat.sub_self, hm, List.replicate_succ, List.set_cons_zero, show 7 - (i + 1) = m by omega]
 simp
theorem tfm_Read.four {x : List Int} (h : x.length = 4) : ∃ a b c d, x = [a, b, c, d] :=
 match x, h with
 | [a, b, c, d], _ => ⟨a, b, c, d, rfl⟩
def tfm_Read.Ic (w : World) (gf gr gm : Nat) (cr cm : Array Value) (X : World → Prop) (p0 p1 p2 p4 p5 p6 p7 p8 p9 p10 : Value) (acc : List (List Int)) (u : World) : Prop :=
 ∃ A c, u.heap[gf]? = some (.cells #[p0, p1, p2, .slice A acc.length c, p4, p5, p6, p7, p8, p9, p10] 26 (0, 0)) ∧ Kd.R k42 42 u w.heap.size (fun _ => True) (.slice A acc.length c) (acc.map tfm_Read.char) ∧ u.heap[gr]? = some (.cells cr 26 (0, 0)) ∧ u.heap[gm]? = some (.cells cm 66 (0, 0)) ∧ X u
set_option maxHeartbeats 2000000 in
theorem tfm_Read.eachc (w u : World) (gf gr gm g : Nat) (cr cm : Array Value) (X : World → Prop) (hXs : ∀ u1 (j : Nat) (v : Value) (cs : Array Value), X u1 → u1.heap[g]? = some (.cells cs 64 (0, 0)) → X (u1.setCell ⟨g, j, none⟩ v))
  (hXq : ∀ u1 u2 (cf : Array Value), X u1 → u1.heap[gf]? = some (.cells cf 26 (0, 0)) → (∀ (k : Nat) (cs : Array Value) (t : TypeId) (fr : Nat × Nat), u1.heap[k]? = some (Obj.cells cs t fr) → k ≠ gf → t ≠ 42 → u2.heap[k]? = u1.heap[k]?) → X u2)
  (z : Int) (hz : z < 1000000) (xs : List Int) (bad : Bool) (p0 p1 p2 p4 p5 p6 p7 p8 p9 p10 : Value) (hB : Below w.heap.size w u) (hb : w.heap.size ≤ g) (hbf : w.heap.size ≤ gf) (nr : gr ≠ gf) (nm : gm ≠ gf) (h : tfm_in_take.Holds w u g xs bad) (hf : u.heap[gf]? = some (.cells #[p0, p1, p2, .slice none 0 0, p4, p5, p6, p7, p8, p9, p10] 26 (0, 0))) (hr : u.heap[gr]? = some (.cells cr 26 (0, 0))) (hm : u.heap[gm]? = some (.cells cm 66 (0, 0))) (hX : X u) :
  Calls Try.prog 37 #[.pointer (some ⟨g, 0, none⟩), .int .i64 z, .func (.func 38) #[] #[.pointer (some ⟨gf, 0, none⟩)]] u fun e u' => e = .returned (.tuple #[]) ∧ tfm_Read.Ic w gf gr gm cr cm X p0 p1 p2 p4 p5 p6 p7 p8 p9 p10 (tfm_in_each.f z.toNat xs bad []).1 u' ∧ tfm_in_take.Holds w u' g (tfm_in_each.f z.toNat xs bad []).2.1 (tfm_in_each.f z.toNat xs bad []).2.2 ∧ Below w.heap.size w u' ∧ tfm_in_take.Keeps w u u' := by
 refine tfm_in_each.calls (lb := #[.pointer (some ⟨gf, 0, none⟩)]) (tfm_Read.Ic w gf gr gm cr cm X p0 p1 p2 p4 p5 p6 p7 p8 p9 p10) (enters_of Try.func38 (by kernel_rfl) rfl) z hz xs bad _ _ _ g w u hB hb h ⟨none, 0, hf, Kd.R_nil _ _ _ _ _, hr, hm, hX⟩ ?_ ?_ rfl
 ·rintro acc u1 j v cs ⟨A, c, h1, h2, h3, h4, h5⟩ hg
  have ne : ∀ {k : Nat} {cs2 : Array Value} {t2 : TypeId}, u1.heap[k]? = some (.cells cs2 t2 (0, 0)) → t2 ≠ 64 → k ≠ g := fun hk ht e => by
   subst e
   rw [hk] at hg
   simp only [Option.some.injEq, Obj.cells.injEq] at hg
   exact ht hg.2.1
  exact ⟨A, c, (Below.heap_setCell u1 ⟨g, j, none⟩ v gf (ne h1 (by decide))).trans h1, Kd.R_mono (Kd.R_step (Kd.R_tight rfl h2) (fun i hi _ => Below.heap_setCell u1 ⟨g, j, none⟩ v i (fun e => Kd.R_ne h2 hg (by decide) (by have e3 : i = g := e; rw [← e3]; exact hi)))) (fun _ _ => trivial), (Below.heap_setCell u1 ⟨g, j, none⟩ v gr (ne h3 (by decide))).trans h3, (Below.heap_setCell u1 ⟨g, j, none⟩ v gm (ne h4 (by decide))).trans h4, hXs u1 j v cs h5 hg⟩
 ·rintro acc u1 A c x hx ⟨A3, c3, h1, h2, h3, h4, h5⟩ hB1 hc hC cs hg hal
  obtain ⟨x0, x1, x2, x3, rfl⟩ := tfm_Read.four hx
  have hlm : (acc.map tfm_Read.char).length = acc.length := List.length_map _
  rw [← hlm] at h1 h2
  refine (tfm_Read_1.calls x0 x1 x2 x3 A c (acc.map tfm_Read.char) gf A3 c3 p0 p1 p2 p4 p5 p6 p7 p8 p9 p10 w u1 hB1 hbf h1 h2 hC (by rw [hlm]; exact hal)).mono ?_
  rintro e u2 ⟨rfl, ⟨A4, c4, k1, k2⟩, k3, k4, k5, k6⟩
  have hle : (acc ++ [[x0, x1, x2, x3]]).length = (acc.map tfm_Read.char).length + 1 := by rw [hlm]; simp
  refine ⟨rfl, ⟨A4, c4, ?_, ?_, (k4 gr _ _ _ h3 nr (by decide)).trans h3, (k4 gm _ _ _ h4 nm (by decide)).trans h4, hXq u1 u2 _ h5 h1 k4⟩, k3, ⟨k6, k5, fun k cs2 t fr hk _ h2' h3' h4' _ => k4 k cs2 t fr hk (fun e => ?_) (by first | exact h3' | exact h4')⟩, k4 g cs _ _ hg (fun e => ?_) (by decide)⟩
  ·rw [hle]; exact k1
  ·rw [hle, List.map_append]; exact k2
  ·subst e; rw [hk] at h1; simp only [Option.some.injEq, Obj.cells.injEq] at h1; exact h2' h1.2.1
  ·subst e; rw [hg] at h1; simp at h1
def tfm_Read.Is (w : World) (gf gr gm : Nat) (cr cm : Array Value) (X : World → Prop) (p0 p1 p2 p3 p4 p5 p6 p7 p9 p10 : Value) (acc : List (List Int)) (u : World) : Prop :=
 ∃ A c, u.heap[gf]? = some (.cells #[p0, p1, p2, p3, p4, p5, p6, p7, .slice A acc.length c, p9, p10] 26 (0, 0)) ∧ Kd.R k51 51 u w.heap.size (fun _ => True) (.slice A acc.length c) (acc.map tfm_Read.step) ∧ u.heap[gr]? = some (.cells cr 26 (0, 0)) ∧ u.heap[gm]? = some (.cells cm 66 (0, 0)) ∧ X u
set_option maxHeartbeats 2000000 in
theorem tfm_Read.eachs (w u : World) (gf gr gm g : Nat) (cr cm : Array Value) (X : World → Prop) (hXs : ∀ u1 (j : Nat) (v : Value) (cs : Array Value), X u1 → u1.heap[g]? = some (.cells cs 64 (0, 0)) → X (u1.setCell ⟨g, j, none⟩ v))
  (hXq : ∀ u1 u2 (cf : Array Value), X u1 → u1.heap[gf]? = some (.cells cf 26 (0, 0)) → (∀ (k : Nat) (cs : Array Value) (t : TypeId) (fr : Nat × Nat), u1.heap[k]? = some (Obj.cells cs t fr) → k ≠ gf → t ≠ 51 → u2.heap[k]? = u1.heap[k]?) → X u2)
  (z : Int) (hz : z < 1000000) (xs : List Int) (bad : Bool) (p0 p1 p2 p3 p4 p5 p6 p7 p9 p10 : Value) (hB : Below w.heap.size w u) (hb : w.heap.size ≤ g) (hbf : w.heap.size ≤ gf) (nr : gr ≠ gf) (nm : gm ≠ gf) (h : tfm_in_take.Holds w u g xs bad) (hf : u.heap[gf]? = some (.cells #[p0, p1, p2, p3, p4, p5, p6, p7, .slice none 0 0, p9, p10] 26 (0, 0))) (hr : u.heap[gr]? = some (.cells cr 26 (0, 0))) (hm : u.heap[gm]? = some (.cells cm 66 (0, 0))) (hX : X u) :
  Calls Try.prog 37 #[.pointer (some ⟨g, 0, none⟩), .int .i64 z, .func (.func 40) #[] #[.pointer (some ⟨gf, 0, none⟩)]] u fun e u' => e = .returned (.tuple #[]) ∧ tfm_Read.Is w gf gr gm cr cm X p0 p1 p2 p3 p4 p5 p6 p7 p9 p10 (tfm_in_each.f z.toNat xs bad []).1 u' ∧ tfm_in_take.Holds w u' g (tfm_in_each.f z.toNat xs bad []).2.1 (tfm_in_each.f z.toNat xs bad []).2.2 ∧ Below w.heap.size w u' ∧ tfm_in_take.Keeps w u u' := by
 refine tfm_in_each.calls (lb := #[.pointer (some ⟨gf, 0, none⟩)]) (tfm_Read.Is w gf gr gm cr cm X p0 p1 p2 p3 p4 p5 p6 p7 p9 p10) (enters_of Try.func40 (by kernel_rfl) rfl) z hz xs bad _ _ _ g w u hB hb h ⟨none, 0, hf, Kd.R_nil _ _ _ _ _, hr, hm, hX⟩ ?_ ?_ rfl
 ·rintro acc u1 j v cs ⟨A, c, h1, h2, h3, h4, h5⟩ hg
  have ne : ∀ {k : Nat} {cs2 : Array Value} {t2 : TypeId}, u1.heap[k]? = some (.cells cs2 t2 (0, 0)) → t2 ≠ 64 → k ≠ g := fun hk ht e => by
   subst e
   rw [hk] at hg
   simp only [Option.some.injEq, Obj.cells.injEq] at hg
   exact ht hg.2.1
  exact ⟨A, c, (Below.heap_setCell u1 ⟨g, j, none⟩ v gf (ne h1 (by decide))).trans h1, Kd.R_mono (Kd.R_step (Kd.R_tight rfl h2) (fun i hi _ => Below.heap_setCell u1 ⟨g, j, none⟩ v i (fun e => Kd.R_ne h2 hg (by decide) (by have e3 : i = g := e; rw [← e3]; exact hi)))) (fun _ _ => trivial), (Below.heap_setCell u1 ⟨g, j, none⟩ v gr (ne h3 (by decide))).trans h3, (Below.heap_setCell u1 ⟨g, j, none⟩ v gm (ne h4 (by decide))).trans h4, hXs u1 j v cs h5 hg⟩
 ·rintro acc u1 A c x hx ⟨A3, c3, h1, h2, h3, h4, h5⟩ hB1 hc hC cs hg hal
  obtain ⟨x0, x1, x2, x3, rfl⟩ := tfm_Read.four hx
  have hlm : (acc.map tfm_Read.step).length = acc.length := List.length_map _
  rw [← hlm] at h1 h2
  refine (tfm_Read_2.calls x0 x1 x2 x3 A c (acc.map tfm_Read.step) gf A3 c3 p0 p1 p2 p3 p4 p5 p6 p7 p9 p10 w u1 hB1 hbf h1 h2 hC (by rw [hlm]; exact hal)).mono ?_
  rintro e u2 ⟨rfl, ⟨A4, c4, k1, k2⟩, k3, k4, k5, k6⟩
  have hle : (acc ++ [[x0, x1, x2, x3]]).length = (acc.map tfm_Read.step).length + 1 := by rw [hlm]; simp
  refine ⟨rfl, ⟨A4, c4, ?_, ?_, (k4 gr _ _ _ h3 nr (by decide)).trans h3, (k4 gm _ _ _ h4 nm (by decide)).trans h4, hXq u1 u2 _ h5 h1 k4⟩, k3, ⟨k6, k5, fun k cs2 t fr hk _ h2' h3' h4' _ => k4 k cs2 t fr hk (fun e => ?_) (by first | exact h3' | exact h4')⟩, k4 g cs _ _ hg (fun e => ?_) (by decide)⟩
  ·rw [hle]; exact k1
  ·rw [hle, List.map_append]; exact k2
  ·subst e; rw [hk] at h1; simp only [Option.some.injEq, Obj.cells.injEq] at h1; exact h2' h1.2.1
  ·subst e; rw [hg] at h1; simp at h1
set_option maxHeartbeats 8000000 in
set_option maxRecDepth 100000 in
theorem tfm_Read.core (k : Nat) (A0 : Option Addr) (c0 : Nat) (l0 : List Int) (r : tfm_Read.Out) (w : World) (hr0 : Kd.C (Kd.int .u8) w A0 l0.length l0) (hc0 : l0.length ≤ c0) (h : tfm_Read.f k l0 = some r) :
  Calls Try.prog 17 #[.slice A0 l0.length c0] w fun e w' => ∃ v3_ v4_ v5_ v6_ v7_ v8_ v9_ v10_ : Value, e = .returned (.tuple #[.agg #[.int .i64 (r.1), .int .i64 (r.2.1), .int .i64 (r.2.2.1), v3_, v4_, v5_, v6_, v7_, v8_, v9_, v10_], .int .i64 (r.2.2.2.2.2.2.2.2.2.2.2)]) ∧ Kd.R k42 42 w' w.heap.size (fun _ => True) v3_ (r.2.2.2.1) ∧ Kd.R (Kd.int .i64) 3 w' w.heap.size (fun k_ => some k_ ≠ (v5_ : Value).ownBlock ∧ some k_ ≠ (v6_ : Value).ownBlock ∧ some k_ ≠ (v7_ : Value).ownBlock ∧ some k_ ≠ (v9_ : Value).ownBlock ∧ some k_ ≠ (v10_ : Value).ownBlock) v4_ (r.2.2.2.2.1) ∧ Kd.R (Kd.int .i64) 3 w' w.heap.size (fun k_ => some k_ ≠ (v4_ : Value).ownBlock ∧ some k_ ≠ (v6_ : Value).ownBlock ∧ some k_ ≠ (v7_ : Value).ownBlock ∧ some k_ ≠ (v9_ : Value).ownBlock ∧ some k_ ≠ (v10_ : Value).ownBlock) v5_ (r.2.2.2.2.2.1) ∧ Kd.R (Kd.int .i64) 3 w' w.heap.size (fun k_ => some k_ ≠ (v4_ : Value).ownBlock ∧ some k_ ≠ (v5_ : Value).ownBlock ∧ some k_ ≠ (v7_ : Value).ownBlock ∧ some k_ ≠ (v9_ : Value).ownBlock ∧ some k_ ≠ (v10_ : Value).ownBlock) v6_ (r.2.2.2.2.2.2.1) ∧ Kd.R (Kd.int .i64) 3 w' w.heap.size (fun k_ => some k_ ≠ (v4_ : Value).ownBlock ∧ some k_ ≠ (v5_ : Value).ownBlock ∧ some k_ ≠ (v6_ : Value).ownBlock ∧ some k_ ≠ (v9_ : Value).ownBlock ∧ some k_ ≠ (v10_ : Value).ownBlock) v7_ (r.2.2.2.2.2.2.2.1) ∧ Kd.R k51 51 w' w.heap.size (fun _ => True) v8_ (r.2.2.2.2.2.2.2.2.1) ∧ Kd.R (Kd.int .i64) 3 w' w.heap.size (fun k_ => some k_ ≠ (v4_ : Value).ownBlock ∧ some k_ ≠ (v5_ : Value).ownBlock ∧ some k_ ≠ (v6_ : Value).ownBlock ∧ some k_ ≠ (v7_ : Value).ownBlock ∧ some k_ ≠ (v10_ : Value).ownBlock) v9_ (r.2.2.2.2.2.2.2.2.2.1) ∧ Kd.R (Kd.int .i64) 3 w' w.heap.size (fun k_ => some k_ ≠ (v4_ : Value).ownBlock ∧ some k_ ≠ (v5_ : Value).ownBlock ∧ some k_ ≠ (v6_ : Value).ownBlock ∧ some k_ ≠ (v7_ : Value).ownBlock ∧ some k_ ≠ (v9_ : Value).ownBlock) v10_ (r.2.2.2.2.2.2.2.2.2.2.1) ∧ Below w.heap.size w w' := by
 have hu26 := Try.underlying26
 have hu64 := Try.underlying64
 have HB := Aside0.mk (Below.refl w.heap.size w)
 have HR := Aside0.mk hr0
 have HC0 := Aside0.mk hc0
 have HH := Aside0.mk h
 have hm := hr0.2.1
 clear hr0 hc0 h
 go_enter Try.func17, Try.ntmps17
 go_upto_region 3 with (first | ((with_reducible refine gate_dst (N := 2) rfl ?_); refine box_event ?hg (N := 2) ?hd (cs := #[.int .i64 0, .int .i64 0, .int .i64 0, .slice none 0 0, .slice none 0 0, .slice none 0 0, .slice none 0 0, .slice none 0 0, .slice none 0 0, .slice none 0 0, .slice none 0 0]) (t := 26) ?hr ?_; (case hd => rfl); (case hg => rfl); (case hr => first | (go_simp; done) | (go_simp; rfl)); intro gr hg wa hbox hb; have GEgr := Aside0.mk (show w.heap.size ≤ gr from hg ▸ below_size (by repeat (first | (with_reducible first | exact HB.out | apply below_alloc | apply pw_below_drewN | apply below_drew1) | exact HB.out))); have n0_ := Aside0.mk (below_step (by repeat (first | (with_reducible first | exact HB.out | apply below_alloc | apply pw_below_drewN | apply below_drew1) | exact HB.out)) hb); have BKgr := Aside0.mk hbox; have hxgr := blk_cell hbox; have hygr := blk_frozen hbox; clear HB; have HB := n0_; clear n0_ hb hbox hg) | ((with_reducible refine gate_dst (N := 15) rfl ?_); refine box_event ?hg (N := 15) ?hd (cs := #[.slice A0 l0.length c0, .bool false]) (t := 64) ?hr ?_; (case hd => rfl); (case hg => rfl); (case hr => first | (go_simp; done) | (go_simp; rfl)); intro g hg wb hbox hb; have NBg_gr := Aside0.mk (show g ≠ gr from by have z_ := (Array.getElem?_eq_some_iff.1 BKgr.out).1; omega); have NBgr_g := Aside0.mk (Ne.symm NBg_gr.out); have GEg := Aside0.mk (show w.heap.size ≤ g from hg ▸ below_size (by repeat (first | (with_reducible first | exact HB.out | apply below_alloc | apply pw_below_drewN | apply below_drew1) | exact HB.out))); have n0_ := Aside0.mk (below_step (by repeat (first | (with_reducible first | exact HB.out | apply below_alloc | apply pw_below_drewN | apply below_drew1) | exact HB.out)) hb); have BKg := Aside0.mk hbox; have hxg := blk_cell hbox; have hyg := blk_frozen hbox; have zgr := Aside0.mk (blk_below BKgr.out hb); clear BKgr hxgr hygr; have BKgr := zgr; clear zgr; have hxgr := blk_cell BKgr.out; have hygr := blk_frozen BKgr.out; clear HB; have HB := n0_; clear n0_ hb hbox hg))
 have H0 := Aside0.mk (show tfm_in_take.Holds w wb g l0 false from ⟨A0, c0, BKg.out, HC0.out, tfm_in_take.firm_came HR.out HB.out⟩)
 clear BKg hxg hyg HR HC0
 have h := HH.out
 clear HH
 unfold tfm_Read.f at h
 by_cases c1 : ¬ (l0.length : Int) % 4 = 0
 ·rw [if_neg c1] at h
  obtain rfl := Option.some.inj h
  have c1b : ((l0.length : Int) % 4 != 0) = true := bne_iff_ne.mpr c1
  clear c1 h
  go_wp2
  (try simp only [Exit.inBlock, Exit.then])
  have hst_ := tfm_Read.stored (d0 := .int .i64 0) (d1 := .int .i64 0) (d2 := .int .i64 0) (d3 := .slice none 0 0) (d4 := .slice none 0 0) (d5 := .slice none 0 0) (d6 := .slice none 0 0) (d7 := .slice none 0 0) (d8 := .slice none 0 0) (d9 := .slice none 0 0) (d10 := .slice none 0 0) BKgr.out HB.out GEgr.out
  refine bodyPost_ret (results_ct rfl _ _ gr 26 #[.int .i64 0, .int .i64 0, .int .i64 0, .slice none 0 0, .slice none 0 0, .slice none 0 0, .slice none 0 0, .slice none 0 0, .slice none 0 0, .slice none 0 0, .slice none 0 0] (0, 0) _ rfl hst_.1 hu26 rfl (by kernel_rfl)) rfl ?_
  exact ⟨_, _, _, _, _, _, _, _, rfl, Kd.R_nil _ _ _ _ _, Kd.R_nil _ _ _ _ _, Kd.R_nil _ _ _ _ _, Kd.R_nil _ _ _ _ _, Kd.R_nil _ _ _ _ _, Kd.R_nil _ _ _ _ _, Kd.R_nil _ _ _ _ _, Kd.R_nil _ _ _ _ _, hst_.2.1⟩
 have c1' := Decidable.not_not.1 c1
 rw [if_pos c1'] at h
 have c1b : ((l0.length : Int) % 4 != 0) = false := bne_eq_false_iff_eq.mpr c1'
 obtain ⟨⟨n1, y1, b1⟩, q1, h⟩ := Option.bind_eq_some_iff.mp h
 have Q1 := Aside0.mk q1
 clear c1 c1' q1
 by_cases c2 : ¬ n1 = (l0.length : Int) / 4
 ·rw [if_neg c2] at h
  obtain rfl := Option.some.inj h
  have c2b : (n1 != (l0.length : Int) / 4) = true := bne_iff_ne.mpr c2
  clear c2 h
  go_wp2_with (first | (go_at_call 35; (with_reducible refine (tfm_in_two.calls k l0 false n1 y1 b1 g w _ HB.out GEg.out H0.out Q1.out).mono ?_); rintro e w5 ⟨rfl, hh, hb, hs⟩; have z_ := Aside0.mk (hs.2 _ _ BKgr.out NBgr_g.out); clear BKgr hxgr hygr; have BKgr := z_; clear z_; have hxgr := blk_cell BKgr.out; have hygr := blk_frozen BKgr.out; have z1_ := Aside0.mk hh; have z2_ := Aside0.mk hb; clear H0 HB hh hb hs; have H0 := z1_; have HB := z2_; clear z1_ z2_))
  (try simp only [Exit.inBlock, Exit.then])
  have hst_ := tfm_Read.stored (d0 := .int .i64 0) (d1 := .int .i64 0) (d2 := .int .i64 0) (d3 := .slice none 0 0) (d4 := .slice none 0 0) (d5 := .slice none 0 0) (d6 := .slice none 0 0) (d7 := .slice none 0 0) (d8 := .slice none 0 0) (d9 := .slice none 0 0) (d10 := .slice none 0 0) BKgr.out HB.out GEgr.out
  refine bodyPost_ret (results_ct rfl _ _ gr 26 #[.int .i64 0, .int .i64 0, .int .i64 0, .slice none 0 0, .slice none 0 0, .slice none 0 0, .slice none 0 0, .slice none 0 0, .slice none 0 0, .slice none 0 0, .slice none 0 0] (0, 0) _ rfl hst_.1 hu26 rfl (by kernel_rfl)) rfl ?_
  exact ⟨_, _, _, _, _, _, _, _, rfl, Kd.R_nil _ _ _ _ _, Kd.R_nil _ _ _ _ _, Kd.R_nil _ _ _ _ _, Kd.R_nil _ _ _ _ _, Kd.R_nil _ _ _ _ _, Kd.R_nil _ _ _ _ _, Kd.R_nil _ _ _ _ _, Kd.R_nil _ _ _ _ _, hst_.2.1⟩
 have c2' := Decidable.not_not.1 c2
 rw [if_pos c2'] at h
 have c2b : (n1 != (l0.length : Int) / 4) = false := bne_eq_false_iff_eq.mpr c2'
 obtain ⟨⟨n2, y2, b2⟩, q2, h⟩ := Option.bind_eq_some_iff.mp h
 have Q2 := Aside0.mk q2
 clear c2 c2' q2
 by_cases c3 : ¬ n2 = 2
 ·rw [if_neg c3] at h
  obtain rfl := Option.some.inj h
  have c3b : (n2 != 2) = true := bne_iff_ne.mpr c3
  clear c3 h
  go_wp2_with (first | (go_at_call 35; (with_reducible refine (tfm_in_two.calls k l0 false n1 y1 b1 g w _ HB.out GEg.out H0.out Q1.out).mono ?_); rintro e w5 ⟨rfl, hh, hb, hs⟩; have z_ := Aside0.mk (hs.2 _ _ BKgr.out NBgr_g.out); clear BKgr hxgr hygr; have BKgr := z_; clear z_; have hxgr := blk_cell BKgr.out; have hygr := blk_frozen BKgr.out; have z1_ := Aside0.mk hh; have z2_ := Aside0.mk hb; clear H0 HB hh hb hs; have H0 := z1_; have HB := z2_; clear z1_ z2_) | (go_at_call 35; (with_reducible refine (tfm_in_two.calls k y1 b1 n2 y2 b2 g w _ HB.out GEg.out H0.out Q2.out).mono ?_); rintro e w5 ⟨rfl, hh, hb, hs⟩; have z_ := Aside0.mk (hs.2 _ _ BKgr.out NBgr_g.out); clear BKgr hxgr hygr; have BKgr := z_; clear z_; have hxgr := blk_cell BKgr.out; have hygr := blk_frozen BKgr.out; have z1_ := Aside0.mk hh; have z2_ := Aside0.mk hb; clear H0 HB hh hb hs; have H0 := z1_; have HB := z2_; clear z1_ z2_))
  (try simp only [Exit.inBlock, Exit.then])
  have hst_ := tfm_Read.stored (d0 := .int .i64 0) (d1 := .int .i64 0) (d2 := .int .i64 0) (d3 := .slice none 0 0) (d4 := .slice none 0 0) (d5 := .slice none 0 0) (d6 := .slice none 0 0) (d7 := .slice none 0 0) (d8 := .slice none 0 0) (d9 := .slice none 0 0) (d10 := .slice none 0 0) BKgr.out HB.out GEgr.out
  refine bodyPost_ret (results_ct rfl _ _ gr 26 #[.int .i64 0, .int .i64 0, .int .i64 0, .slice none 0 0, .slice none 0 0, .slice none 0 0, .slice none 0 0, .slice none 0 0, .slice none 0 0, .slice none 0 0, .slice none 0 0] (0, 0) _ rfl hst_.1 hu26 rfl (by kernel_rfl)) rfl ?_
  exact ⟨_, _, _, _, _, _, _, _, rfl, Kd.R_nil _ _ _ _ _, Kd.R_nil _ _ _ _ _, Kd.R_nil _ _ _ _ _, Kd.R_nil _ _ _ _ _, Kd.R_nil _ _ _ _ _, Kd.R_nil _ _ _ _ _, Kd.R_nil _ _ _ _ _, Kd.R_nil _ _ _ _ _, hst_.2.1⟩
 have c3' := Decidable.not_not.1 c3
 rw [if_pos c3'] at h
 have c3b : (n2 != 2) = false := bne_eq_false_iff_eq.mpr c3'
 clear c3 c3'
 obtain ⟨⟨n3, y3, b3⟩, q3, h⟩ := Option.bind_eq_some_iff.mp h
 obtain ⟨⟨n4, y4, b4⟩, q4, h⟩ := Option.bind_eq_some_iff.mp h
 obtain ⟨⟨ms, ym, bm⟩, qm, h⟩ := Option.bind_eq_some_iff.mp h
 have Q3 := Aside0.mk q3
 have Q4 := Aside0.mk q4
 have QM := Aside0.mk qm
 have HH := Aside0.mk h
 clear q3 q4 qm h
 go_upto_region 8 with (first | (go_at_call 35; (with_reducible refine (tfm_in_two.calls k l0 false n1 y1 b1 g w _ HB.out GEg.out H0.out Q1.out).mono ?_); rintro e w5 ⟨rfl, hh, hb, hs⟩; have z_ := Aside0.mk (hs.2 _ _ BKgr.out NBgr_g.out); clear BKgr hxgr hygr; have BKgr := z_; clear z_; have hxgr := blk_cell BKgr.out; have hygr := blk_frozen BKgr.out; have z1_ := Aside0.mk hh; have z2_ := Aside0.mk hb; clear H0 HB hh hb hs; have H0 := z1_; have HB := z2_; clear z1_ z2_) | (go_at_call 35; (with_reducible refine (tfm_in_two.calls k y1 b1 n2 y2 b2 g w _ HB.out GEg.out H0.out Q2.out).mono ?_); rintro e w5 ⟨rfl, hh, hb, hs⟩; have z_ := Aside0.mk (hs.2 _ _ BKgr.out NBgr_g.out); clear BKgr hxgr hygr; have BKgr := z_; clear z_; have hxgr := blk_cell BKgr.out; have hygr := blk_frozen BKgr.out; have z1_ := Aside0.mk hh; have z2_ := Aside0.mk hb; clear H0 HB hh hb hs; have H0 := z1_; have HB := z2_; clear z1_ z2_) | (go_at_call 35; (with_reducible refine (tfm_in_two.calls k y2 b2 n3 y3 b3 g w _ HB.out GEg.out H0.out Q3.out).mono ?_); rintro e w5 ⟨rfl, hh, hb, hs⟩; have z_ := Aside0.mk (hs.2 _ _ BKgr.out NBgr_g.out); clear BKgr hxgr hygr; have BKgr := z_; clear z_; have hxgr := blk_cell BKgr.out; have hygr := blk_frozen BKgr.out; have z1_ := Aside0.mk hh; have z2_ := Aside0.mk hb; clear H0 HB hh hb hs; have H0 := z1_; have HB := z2_; clear z1_ z2_) | (go_at_call 35; (with_reducible refine (tfm_in_two.calls k y3 b3 n4 y4 b4 g w _ HB.out GEg.out H0.out Q4.out).mono ?_); rintro e w5 ⟨rfl, hh, hb, hs⟩; have z_ := Aside0.mk (hs.2 _ _ BKgr.out NBgr_g.out); clear BKgr hxgr hygr; have BKgr := z_; clear z_; have hxgr := blk_cell BKgr.out; have hygr := blk_frozen BKgr.out; have z_ := Aside0.mk (hs.2 _ _ BKgf.out NBgf_g.out); clear BKgf hxgf hygf; have BKgf := z_; clear z_; have hxgf := blk_cell BKgf.out; have hygf := blk_frozen BKgf.out; have z1_ := Aside0.mk hh; have z2_ := Aside0.mk hb; clear H0 HB hh hb hs; have H0 := z1_; have HB := z2_; clear z1_ z2_) | ((with_reducible refine gate_dst (N := 7) rfl ?_); refine box_event ?hg (N := 7) ?hd (cs := #[.int .i64 0, .int .i64 0, .int .i64 0, .slice none 0 0, .slice none 0 0, .slice none 0 0, .slice none 0 0, .slice none 0 0, .slice none 0 0, .slice none 0 0, .slice none 0 0]) (t := 26) ?hr ?_; (case hd => rfl); (case hg => rfl); (case hr => first | (go_simp; done) | (go_simp; rfl)); intro gf hg wc hbox hb; have NBgf_g := Aside0.mk (show gf ≠ g from by obtain ⟨_, _, h9, _⟩ := H0.out; have := (Array.getElem?_eq_some_iff.1 h9).1; omega); have z1_ := Aside0.mk (tfm_in_take.holds_below H0.out hb HB.out.size); clear H0; have H0 := z1_; clear z1_; have NBgf_gr := Aside0.mk (show gf ≠ gr from by have z_ := (Array.getElem?_eq_some_iff.1 BKgr.out).1; omega); have NBgr_gf := Aside0.mk (Ne.symm NBgf_gr.out); have GEgf := Aside0.mk (show w.heap.size ≤ gf from hg ▸ below_size (by repeat (first | (with_reducible first | exact HB.out | apply below_alloc | apply pw_below_drewN | apply below_drew1) | exact HB.out))); have n0_ := Aside0.mk (below_step (by repeat (first | (with_reducible first | exact HB.out | apply below_alloc | apply pw_below_drewN | apply below_drew1) | exact HB.out)) hb); have BKgf := Aside0.mk hbox; have hxgf := blk_cell hbox; have hygf := blk_frozen hbox; have zgr := Aside0.mk (blk_below BKgr.out hb); clear BKgr hxgr hygr; have BKgr := zgr; clear zgr; have hxgr := blk_cell BKgr.out; have hygr := blk_frozen BKgr.out; clear HB; have HB := n0_; clear n0_ hb hbox hg) | ((with_reducible refine gate_store (t := 26) rfl ?_); refine store_row_event (base := w.heap.size) rfl rfl 26 _ _ rfl (g := gf) (by rfl) (by rfl) BKgf.out (by kernel_rfl) (by rfl) (by rfl) GEgf.out ?_; intro ws_ hs_ hk_ hb_; have z1_ := Aside0.mk (tfm_in_take.holds_keeps H0.out (tfm_Read.keeps_one hk_ hb_.size GEgf.out BKgf.out (.inl rfl)) (hk_ g (Ne.symm NBgf_g.out))); clear H0; have H0 := z1_; clear z1_; have n0_ := Aside0.mk (HB.out.trans hb_); clear HB; have HB := n0_; clear n0_; have z_ := Aside0.mk ((hk_ gr NBgr_gf.out).trans BKgr.out); clear BKgr hxgr hygr; have BKgr := z_; clear z_; have hxgr := blk_cell BKgr.out; have hygr := blk_frozen BKgr.out; clear BKgf hxgf hygf; have BKgf := Aside0.mk hs_; have hxgf := blk_cell BKgf.out; have hygf := blk_frozen BKgf.out; clear hs_ hk_ hb_) | ((with_reducible refine gate_dst (N := 9) rfl ?_); refine box_event ?hg (N := 9) ?hd (cs := #[.int .i64 0, .int .i64 0, .int .i64 0, .int .i64 0, .int .i64 0, .int .i64 0, .int .i64 0, .int .i64 0]) (t := 66) ?hr ?_; (case hd => rfl); (case hg => rfl); (case hr => first | (go_simp; done) | (go_simp; rfl)); intro gm hg wd hbox hb; have NBgm_g := Aside0.mk (show gm ≠ g from by obtain ⟨_, _, h9, _⟩ := H0.out; have := (Array.getElem?_eq_some_iff.1 h9).1; omega); have z1_ := Aside0.mk (tfm_in_take.holds_below H0.out hb HB.out.size); clear H0; have H0 := z1_; clear z1_; have NBgm_gr := Aside0.mk (show gm ≠ gr from by have z_ := (Array.getElem?_eq_some_iff.1 BKgr.out).1; omega); have NBgr_gm := Aside0.mk (Ne.symm NBgm_gr.out); have NBgm_gf := Aside0.mk (show gm ≠ gf from by have z_ := (Array.getElem?_eq_some_iff.1 BKgf.out).1; omega); have NBgf_gm := Aside0.mk (Ne.symm NBgm_gf.out); have GEgm := Aside0.mk (show w.heap.size ≤ gm from hg ▸ below_size (by repeat (first | (with_reducible first | exact HB.out | apply below_alloc | apply pw_below_drewN | apply below_drew1) | exact HB.out))); have n0_ := Aside0.mk (below_step (by repeat (first | (with_reducible first | exact HB.out | apply below_alloc | apply pw_below_drewN | apply below_drew1) | exact HB.out)) hb); have BKgm := Aside0.mk hbox; have hxgm := blk_cell hbox; have hygm := blk_frozen hbox; have zgr := Aside0.mk (blk_below BKgr.out hb); clear BKgr hxgr hygr; have BKgr := zgr; clear zgr; have hxgr := blk_cell BKgr.out; have hygr := blk_frozen BKgr.out; have zgf := Aside0.mk (blk_below BKgf.out hb); clear BKgf hxgf hygf; have BKgf := zgf; clear zgf; have hxgf := blk_cell BKgf.out; have hygf := blk_frozen BKgf.out; clear HB; have HB := n0_; clear n0_ hb hbox hg))
 clear Q1 Q2 Q3 Q4 c1b c2b c3b
 go_wp2
 go_loopw [10, 43] (fun _ v43 wr => ∃ (i : Nat) (ys : List Int) (bd : Bool) (L : List Int), i ≤ 8 ∧ v43 = .int .i64 i ∧ L.length = 8 ∧ Aside0 (tfm_Read.manys k (8 - i) ys bd (L.take i) = some (ms, ym, bm)) ∧ Aside0 (tfm_in_take.Holds w wr g ys bd) ∧ Aside0 (Below w.heap.size w wr) ∧ Aside0 (wr.heap[gr]? = some (.cells #[.int .i64 0, .int .i64 0, .int .i64 0, .slice none 0 0, .slice none 0 0, .slice none 0 0, .slice none 0 0, .slice none 0 0, .slice none 0 0, .slice none 0 0, .slice none 0 0] 26 (0, 0))) ∧ Aside0 (wr.heap[gf]? = some (.cells #[.int .i64 0, .int .i64 0, .int .i64 n3, .slice none 0 0, .slice none 0 0, .slice none 0 0, .slice none 0 0, .slice none 0 0, .slice none 0 0, .slice none 0 0, .slice none 0 0] 26 (0, 0))) ∧ Aside0 (wr.heap[gm]? = some (.cells (L.map fun n => Value.int .i64 n).toArray 66 (0, 0)))) (fun _ v43 _ => 8 - (intOf v43).toNat)
 case atStart => exact ⟨0, y4, b4, [0, 0, 0, 0, 0, 0, 0, 0], Nat.zero_le _, rfl, rfl, QM, H0, HB, BKgr, BKgf, BKgm⟩
 case round =>
  clear H0 HB BKgr hxgr hygr BKgf hxgf hygf BKgm hxgm hygm QM
  obtain ⟨i, ys, bd, L, hii, rfl, hL, QM, H0, HB, BKgr, BKgf, BKgm⟩ := hrel
  have hxgr := blk_cell BKgr.out
  have hygr := blk_frozen BKgr.out
  have hxgf := blk_cell BKgf.out
  have hygf := blk_frozen BKgf.out
  by_cases hlt : i < 8
  ·have hltz : (i : Int) < 8 := by omega
   obtain ⟨m, hm1⟩ : ∃ m, 8 - i = m + 1 := ⟨8 - i - 1, by omega⟩
   have hm2 : m = 8 - (i + 1) := by omega
   have hq := QM.out
   rw [hm1, tfm_Read.manys, hm2] at hq
   obtain ⟨⟨nm, ym', bm'⟩, hz, hq⟩ := Option.bind_eq_some_iff.mp hq
   have HZ := Aside0.mk hz
   have HA := Aside0.mk hq
   have HLE := Aside0.mk hL
   have hygm := blk_frozen BKgm.out
   have hxgm := (blk_cell BKgm.out i).trans (tfm_Read.at8 L i (by omega))
   clear hm1 hm2 hq hz QM hL
   go_wp2_with (first | (go_at_call 35; (with_reducible refine (tfm_in_two.calls k ys bd nm ym' bm' g w _ HB.out GEg.out H0.out HZ.out).mono ?_); rintro e w5 ⟨rfl, hh, hb, hs⟩; have z_ := Aside0.mk (hs.2 _ _ BKgm.out NBgm_g.out); clear BKgm hxgm hygm; have BKgm := z_; clear z_; have hxgm := (blk_cell BKgm.out i).trans (tfm_Read.at8 L i (by have := HLE.out; omega)); have hygm := blk_frozen BKgm.out; have z_ := Aside0.mk (hs.2 _ _ BKgr.out NBgr_g.out); clear BKgr hxgr hygr; have BKgr := z_; clear z_; have hxgr := blk_cell BKgr.out; have hygr := blk_frozen BKgr.out; have z_ := Aside0.mk (hs.2 _ _ BKgf.out NBgf_g.out); clear BKgf hxgf hygf; have BKgf := z_; clear z_; have hxgf := blk_cell BKgf.out; have hygf := blk_frozen BKgf.out; have z1_ := Aside0.mk hh; have z2_ := Aside0.mk hb; clear H0 HB hh hb hs; have H0 := z1_; have HB := z2_; clear z1_ z2_))
   go_roundw
   case rel =>
    have h8 := HLE.out
    refine ⟨i + 1, ym', bm', L.set i nm, by omega, by go_num, by rw [List.length_set]; exact h8, ⟨?_⟩, ⟨tfm_in_take.holds_keeps H0.out (tfm_Read.keeps_one (fun k hk => Below.heap_setCell w5 ⟨gm, i, none⟩ _ k hk) (Nat.le_of_eq (World.size_setCell w5 _ _).symm) GEgm.out BKgm.out (.inr rfl)) (Below.heap_setCell w5 ⟨gm, i, none⟩ _ g (Ne.symm NBgm_g.out))⟩, ⟨HB.out.setCell (p := ⟨gm, i, none⟩) GEgm.out _⟩, ⟨(Below.heap_setCell w5 ⟨gm, i, none⟩ _ gr NBgr_gm.out).trans BKgr.out⟩, ⟨(Below.heap_setCell w5 ⟨gm, i, none⟩ _ gf NBgf_gm.out).trans BKgf.out⟩, ⟨blk_put BKgm.out i _ (by simp)⟩⟩
    rw [tfm_Read.set_take L i nm (by omega)]
    exact HA.out
   case measure => simp [intOf]; omega
  ·obtain rfl : i = 8 := by omega
   have hq := QM.out
   rw [Nat.sub_self, tfm_Read.manys, List.take_of_length_le (by omega)] at hq
   obtain ⟨rfl, rfl, rfl⟩ : ms = L ∧ ym = ys ∧ bm = bd := by have := Option.some.inj hq; simp only [Prod.mk.injEq] at this; exact ⟨this.1.symm, this.2.1.symm, this.2.2.symm⟩
   have HL8 := Aside0.mk hL
   clear hq QM hL
   have h := HH.out
   clear HH
   unfold tfm_Read.tail at h
   by_cases d1 : n4 < n3
   ·rw [if_pos d1] at h
    obtain rfl := Option.some.inj h
    have d1b : decide (n4 < n3) = true := decide_eq_true d1
    clear d1 h
    go_wp2
    (try simp only [Exit.inBlock, Exit.then])
    have hst_ := tfm_Read.stored (d0 := .int .i64 0) (d1 := .int .i64 0) (d2 := .int .i64 0) (d3 := .slice none 0 0) (d4 := .slice none 0 0) (d5 := .slice none 0 0) (d6 := .slice none 0 0) (d7 := .slice none 0 0) (d8 := .slice none 0 0) (d9 := .slice none 0 0) (d10 := .slice none 0 0) BKgr.out HB.out GEgr.out
    refine bodyPost_ret (results_ct rfl _ _ gr 26 #[.int .i64 0, .int .i64 0, .int .i64 0, .slice none 0 0, .slice none 0 0, .slice none 0 0, .slice none 0 0, .slice none 0 0, .slice none 0 0, .slice none 0 0, .slice none 0 0] (0, 0) _ rfl hst_.1 hu26 rfl (by kernel_rfl)) rfl ?_
    exact ⟨_, _, _, _, _, _, _, _, rfl, Kd.R_nil _ _ _ _ _, Kd.R_nil _ _ _ _ _, Kd.R_nil _ _ _ _ _, Kd.R_nil _ _ _ _ _, Kd.R_nil _ _ _ _ _, Kd.R_nil _ _ _ _ _, Kd.R_nil _ _ _ _ _, Kd.R_nil _ _ _ _ _, hst_.2.1⟩
   rw [if_neg d1] at h
   have d1b : decide (n4 < n3) = false := decide_eq_false d1
   have hx6 := (blk_cell BKgm.out 6).trans (tfm_Read.at8 ms 6 (by have := HL8.out; omega))
   have hygm := blk_frozen BKgm.out
   obtain ⟨m6, hm6⟩ : ∃ m6, m6 = ms.getD 6 0 := ⟨_, rfl⟩
   rw [← hm6] at h hx6
   clear d1 hm6
   by_cases d2 : ¬ m6 = 0
   ·rw [if_neg d2] at h
    obtain rfl := Option.some.inj h
    have d2b : (m6 != 0) = true := bne_iff_ne.mpr d2
    clear d2 h
    go_wp2
    (try simp only [Exit.inBlock, Exit.then])
    have hst_ := tfm_Read.stored (d0 := .int .i64 0) (d1 := .int .i64 0) (d2 := .int .i64 0) (d3 := .slice none 0 0) (d4 := .slice none 0 0) (d5 := .slice none 0 0) (d6 := .slice none 0 0) (d7 := .slice none 0 0) (d8 := .slice none 0 0) (d9 := .slice none 0 0) (d10 := .slice none 0 0) BKgr.out HB.out GEgr.out
    refine bodyPost_ret (results_ct rfl _ _ gr 26 #[.int .i64 0, .int .i64 0, .int .i64 0, .slice none 0 0, .slice none 0 0, .slice none 0 0, .slice none 0 0, .slice none 0 0, .slice none 0 0, .slice none 0 0, .slice none 0 0] (0, 0) _ rfl hst_.1 hu26 rfl (by kernel_rfl)) rfl ?_
    exact ⟨_, _, _, _, _, _, _, _, rfl, Kd.R_nil _ _ _ _ _, Kd.R_nil _ _ _ _ _, Kd.R_nil _ _ _ _ _, Kd.R_nil _ _ _ _ _, Kd.R_nil _ _ _ _ _, Kd.R_nil _ _ _ _ _, Kd.R_nil _ _ _ _ _, Kd.R_nil _ _ _ _ _, hst_.2.1⟩
   have d2' := Decidable.not_not.1 d2
   rw [if_pos d2'] at h
   have d2b : (m6 != 0) = false := bne_eq_false_iff_eq.mpr d2'
   clear d2 d2'
   obtain ⟨⟨n5, y5, b5⟩, q5, h⟩ := Option.bind_eq_some_iff.mp h
   obtain ⟨⟨n6, y6, b6⟩, q6, h⟩ := Option.bind_eq_some_iff.mp h
   have Q5 := Aside0.mk q5
   have Q6 := Aside0.mk q6
   have HH := Aside0.mk h
   clear q5 q6 h
   go_upto_region 16 with (first | (go_at_call 36; (with_reducible refine (tfm_in_four.calls k ym bm n5 y5 b5 g w _ HB.out GEg.out H0.out Q5.out).mono ?_); rintro e w5 ⟨rfl, hh, hb, hs⟩; clear hx6; have z_ := Aside0.mk (hs.2 _ _ BKgm.out NBgm_g.out); clear BKgm hygm; have BKgm := z_; clear z_; have hygm := blk_frozen BKgm.out; have z_ := Aside0.mk (hs.2 _ _ BKgr.out NBgr_g.out); clear BKgr hxgr hygr; have BKgr := z_; clear z_; have hxgr := blk_cell BKgr.out; have hygr := blk_frozen BKgr.out; have z_ := Aside0.mk (hs.2 _ _ BKgf.out NBgf_g.out); clear BKgf hxgf hygf; have BKgf := z_; clear z_; have hxgf := blk_cell BKgf.out; have hygf := blk_frozen BKgf.out; have z1_ := Aside0.mk hh; have z2_ := Aside0.mk hb; clear H0 HB hh hb hs; have H0 := z1_; have HB := z2_; clear z1_ z2_) | (go_at_call 36; (with_reducible refine (tfm_in_four.calls k y5 b5 n6 y6 b6 g w _ HB.out GEg.out H0.out Q6.out).mono ?_); rintro e w5 ⟨rfl, hh, hb, hs⟩; have z_ := Aside0.mk (hs.2 _ _ BKgm.out NBgm_g.out); clear BKgm hygm; have BKgm := z_; clear z_; have hygm := blk_frozen BKgm.out; have z_ := Aside0.mk (hs.2 _ _ BKgr.out NBgr_g.out); clear BKgr hxgr hygr; have BKgr := z_; clear z_; have hxgr := blk_cell BKgr.out; have hygr := blk_frozen BKgr.out; have z_ := Aside0.mk (hs.2 _ _ BKgf.out NBgf_g.out); clear BKgf hxgf hygf; have BKgf := z_; clear z_; have hxgf := blk_cell BKgf.out; have hygf := blk_frozen BKgf.out; have z1_ := Aside0.mk hh; have z2_ := Aside0.mk hb; clear H0 HB hh hb hs; have H0 := z1_; have HB := z2_; clear z1_ z2_))
   obtain ⟨w6, hw6⟩ : ∃ w6, w6 = (w5.setCell ⟨gf, 0, none⟩ (.int .i64 n5)).setCell ⟨gf, 1, none⟩ (.int .i64 n6) := ⟨_, rfl⟩
   have P0 := blk_put (cs' := #[.int .i64 n5, .int .i64 0, .int .i64 n3, .slice none 0 0, .slice none 0 0, .slice none 0 0, .slice none 0 0, .slice none 0 0, .slice none 0 0, .slice none 0 0, .slice none 0 0]) BKgf.out 0 (.int .i64 n5) rfl
   have P1 := blk_put (cs' := #[.int .i64 n5, .int .i64 n6, .int .i64 n3, .slice none 0 0, .slice none 0 0, .slice none 0 0, .slice none 0 0, .slice none 0 0, .slice none 0 0, .slice none 0 0, .slice none 0 0]) P0 1 (.int .i64 n6) rfl
   have hk6 : ∀ k, k ≠ gf → w6.heap[k]? = w5.heap[k]? := fun k hk => by rw [hw6]; exact (Below.heap_setCell _ ⟨gf, 1, none⟩ _ k hk).trans (Below.heap_setCell w5 ⟨gf, 0, none⟩ _ k hk)
   have z1_ := Aside0.mk (show tfm_in_take.Holds w w6 g y6 b6 from by rw [hw6]; exact tfm_Read.holds_font (tfm_Read.holds_font H0.out GEgf.out NBgf_g.out BKgf.out) GEgf.out NBgf_g.out P0)
   have z2_ := Aside0.mk (show Below w.heap.size w w6 from by rw [hw6]; exact (HB.out.setCell (p := ⟨gf, 0, none⟩) GEgf.out _).setCell (p := ⟨gf, 1, none⟩) GEgf.out _)
   have z3_ := Aside0.mk ((hk6 gr NBgr_gf.out).trans BKgr.out)
   have z4_ := Aside0.mk ((hk6 gm NBgm_gf.out).trans BKgm.out)
   rw [← hw6] at P1
   rw [← hw6]
   clear H0 HB BKgr hxgr hygr BKgf hxgf hygf BKgm hygm hk6 P0 hw6 Q5 Q6 d1b d2b
   have H0 := z1_
   have HB := z2_
   have BKgr := z3_
   have BKgm := z4_
   have BKgf := Aside0.mk P1
   have hxgf := blk_cell P1
   have hygf := blk_frozen P1
   clear z1_ z2_ z3_ z4_ P1
   have h := HH.out
   clear HH
   unfold tfm_Read.tables at h
   obtain ⟨z, hz⟩ : ∃ z, z = wrap64 (wrap64 (n4 - n3) + 1) := ⟨_, rfl⟩
   simp only [← hz] at h
   by_cases hc : ¬ (z < 1000000 ∧ (ms.all fun n => decide (n < 1000000)) = true)
   ·rw [if_neg hc] at h; cases h
   have hc' := Decidable.not_not.1 hc
   rw [if_pos hc'] at h
   have hmall : ∀ j, ms.getD j 0 < 1000000 := fun j => by
    by_cases hj : j < ms.length
    ·have := List.all_eq_true.1 hc'.2 ms[j] (List.getElem_mem hj)
     rw [List.getD_eq_getElem?_getD, List.getElem?_eq_getElem hj]
     simpa using this
    ·rw [List.getD_eq_getElem?_getD, List.getElem?_eq_none (by omega)]
     decide
   have HZ1 := Aside0.mk (show wrap64 (wrap64 (n4 - n3) + 1) < 1000000 from by rw [← hz]; exact hc'.1)
   have HMA := Aside0.mk hmall
   obtain ⟨⟨ch, y7, b7⟩, hE1⟩ : ∃ p, p = tfm_in_each.f z.toNat y6 b6 [] := ⟨_, rfl⟩
   simp only [← hE1] at h
   rw [hz] at hE1
   have HE1 := Aside0.mk hE1
   obtain ⟨⟨lw, y8, b8⟩, q4, h⟩ := Option.bind_eq_some_iff.mp h
   have Q8 := Aside0.mk (show tfm_Read.four_ k ms 4 0 y7 b7 [] = some (lw, y8, b8) from q4)
   have HH := Aside0.mk h
   clear hc hc' hmall hE1 q4 h hz
   go_upto_region 17 with (first | (go_at_call 37; (with_reducible refine (tfm_Read.eachc w w6 gf gr gm g #[.int .i64 0, .int .i64 0, .int .i64 0, .slice none 0 0, .slice none 0 0, .slice none 0 0, .slice none 0 0, .slice none 0 0, .slice none 0 0, .slice none 0 0, .slice none 0 0] (ms.map fun n => Value.int .i64 n).toArray (fun _ => True) (fun _ _ _ _ _ _ => trivial) (fun _ _ _ _ _ _ => trivial) _ HZ1.out y6 b6 _ _ _ _ _ _ _ _ _ _ HB.out GEg.out GEgf.out NBgr_gf.out NBgm_gf.out H0.out BKgf.out BKgr.out BKgm.out trivial).mono ?_); rintro e w7 ⟨rfl, hi, hh, hb, hk⟩; rw [← HE1.out] at hi hh; have HI := Aside0.mk hi; have z1_ := Aside0.mk hh; have z2_ := Aside0.mk hb; clear H0 HB BKgr BKgm BKgf hxgf hygf hi hh hb hk; have H0 := z1_; have HB := z2_; clear z1_ z2_))
   obtain ⟨Ac, cc, i1, i2, i3, i4, -⟩ := HI.out
   have BKgf := Aside0.mk (show w7.heap[gf]? = some (.cells ([Value.int .i64 n5, .int .i64 n6, .int .i64 n3, .slice Ac ch.length cc] ++ [] ++ List.replicate (7 - 0) (Value.slice none 0 0)).toArray 26 (0, 0)) from i1)
   have HRc := Aside0.mk (show Kd.R k42 42 w7 w.heap.size (fun _ => True) (.slice Ac ch.length cc) (ch.map tfm_Read.char) from i2)
   have BKgr := Aside0.mk i3
   have BKgm := Aside0.mk i4
   clear i1 i2 i3 i4 HI HE1 HZ1
   go_wp2_with (first | ((with_reducible refine gate_dst (N := 79) rfl ?_); refine Kd.event_run (v := .slice (some ⟨w7.heap.size, 0, none⟩) 4 4) (w1 := w7.alloc (.cells #[.pointer (some ⟨gf, 4, none⟩), .pointer (some ⟨gf, 5, none⟩), .pointer (some ⟨gf, 6, none⟩), .pointer (some ⟨gf, 7, none⟩)] 69)) rfl ?hr ?_; (case hr => first | (go_simp; done) | (go_simp; rfl))))
   have HRc0 := HRc
   have hal : Below w7.heap.size w7 (w7.alloc (.cells #[.pointer (some ⟨gf, 4, none⟩), .pointer (some ⟨gf, 5, none⟩), .pointer (some ⟨gf, 6, none⟩), .pointer (some ⟨gf, 7, none⟩)] 69)) := below_alloc (Below.refl _ _) _
   have BKp0 := World.alloc_heap_new w7 (.cells #[.pointer (some ⟨gf, 4, none⟩), .pointer (some ⟨gf, 5, none⟩), .pointer (some ⟨gf, 6, none⟩), .pointer (some ⟨gf, 7, none⟩)] 69)
   have hltk : ∀ {k : Nat} {o : Obj}, w7.heap[k]? = some o → w7.heap.size ≠ k := fun h => by have := (Array.getElem?_eq_some_iff.1 h).1; omega
   have NP : w7.heap.size ≠ g ∧ w7.heap.size ≠ gf := ⟨by obtain ⟨_, h9⟩ := tfm_Read.holds_in H0.out; exact hltk h9, hltk BKgf.out⟩
   obtain ⟨bp, hbp⟩ : ∃ bp, bp = w7.heap.size := ⟨_, rfl⟩
   rw [← hbp] at BKp0 NP
   simp only [← hbp]
   clear hbp hltk
   have NBP := Aside0.mk NP
   go_loopw [11, 12, 81] (fun _ _ v81 wr => ∃ (i : Nat) (ys : List Int) (bd : Bool) (us : List Value) (ls : List (List Int)), i ≤ 4 ∧ v81 = .int .i64 i ∧ us.length = i ∧ Aside0 (tfm_Read.four_ k ms (4 - i) i ys bd ls = some (lw, y8, b8)) ∧ Aside0 (tfm_in_take.Holds w wr g ys bd) ∧ Aside0 (Below w.heap.size w wr) ∧ Aside0 (wr.heap[gr]? = some (.cells #[.int .i64 0, .int .i64 0, .int .i64 0, .slice none 0 0, .slice none 0 0, .slice none 0 0, .slice none 0 0, .slice none 0 0, .slice none 0 0, .slice none 0 0, .slice none 0 0] 26 (0, 0))) ∧ Aside0 (wr.heap[gm]? = some (.cells (ms.map fun n => Value.int .i64 n).toArray 66 (0, 0))) ∧ Aside0 (wr.heap[gf]? = some (.cells ([Value.int .i64 n5, .int .i64 n6, .int .i64 n3, .slice Ac ch.length cc] ++ us ++ List.replicate (7 - i) (Value.slice none 0 0)).toArray 26 (0, 0))) ∧ Aside0 (Kd.R k42 42 wr w.heap.size (fun _ => True) (.slice Ac ch.length cc) (ch.map tfm_Read.char)) ∧ Aside0 (tfm_Read.Rows w wr us ls) ∧ Aside0 (∀ v ∈ us, ∃ A n c, v = .slice A n c) ∧ Aside0 (wr.heap[bp]? = some (.cells #[.pointer (some ⟨gf, 4, none⟩), .pointer (some ⟨gf, 5, none⟩), .pointer (some ⟨gf, 6, none⟩), .pointer (some ⟨gf, 7, none⟩)] 69 (0, 0)))) (fun _ _ v81 _ => 4 - (intOf v81).toNat)
   case atStart => exact ⟨0, y7, b7, [], [], Nat.zero_le _, rfl, rfl, Q8, ⟨tfm_in_take.holds_below H0.out hal HB.out.size⟩, ⟨below_step HB.out hal⟩, ⟨blk_below BKgr.out hal⟩, ⟨blk_below BKgm.out hal⟩, ⟨blk_below BKgf.out hal⟩, ⟨Kd.R_below HRc.out hal⟩, ⟨tfm_Read.rows_nil _ _⟩, ⟨fun v h => by simp at h⟩, ⟨BKp0⟩⟩
   case round =>
    clear H0 HB BKgr BKgm BKgf HRc HRc0 Q8 hal BKp0 NP
    obtain ⟨i, ys, bd, us, ls, hii, rfl, hus, HQ, H0, HB, BKgr, BKgm, BKgf, HRc, HRw, HSl, BKbp⟩ := hrel
    have HUS := Aside0.mk hus
    by_cases hlt : i < 4
    ·have hltz : (i : Int) < 4 := by omega
     obtain ⟨m, hm1⟩ : ∃ m, 4 - i = m + 1 := ⟨4 - i - 1, by omega⟩
     have hm2 : m = 4 - (i + 1) := by omega
     have hq := HQ.out
     rw [hm1, tfm_Read.four_, hm2] at hq
     obtain ⟨⟨lr, y', b'⟩, hz, hq⟩ := Option.bind_eq_some_iff.mp hq
     have hxm := (blk_cell BKgm.out i).trans (tfm_Read.at8 ms i (by have := HL8.out; omega))
     obtain ⟨mi, hmi⟩ : ∃ mi, mi = ms.getD i 0 := ⟨_, rfl⟩
     have hmz := HMA.out i
     rw [← hmi] at hz hxm hmz
     have HMZ := Aside0.mk hmz
     have HZ := Aside0.mk hz
     have HA := Aside0.mk hq
     have hxp : wr.cell? ⟨bp, i, none⟩ = some (.pointer (some ⟨gf, 4 + i, none⟩)) := (blk_cell BKbp.out i).trans (by
      have h4 : i = 0 ∨ i = 1 ∨ i = 2 ∨ i = 3 := by omega
      rcases h4 with rfl | rfl | rfl | rfl <;> rfl)
     clear hm1 hm2 hq hz hmi hmz HQ hus
     go_wp2_with (first | (go_at_call 39; have hlt_ := tfm_Read.rows_lt HRw.out; (with_reducible refine (tfm_in_fixes.calls k mi HMZ.out ys bd lr y' b' g w wr HB.out GEg.out H0.out HZ.out).mono ?_); rintro e w8 ⟨v8, rfl, hr, hh, hb, hs⟩; obtain ⟨A8, c8, e8⟩ := Kd.R_slice hr; subst e8; obtain ⟨_, hgi⟩ := tfm_Read.holds_in H0.out; have z1_ := Aside0.mk (hs.2 _ _ BKgr.out NBgr_g.out); have z2_ := Aside0.mk (hs.2 _ _ BKgm.out NBgm_g.out); have z3_ := Aside0.mk (hs.2 _ _ BKgf.out NBgf_g.out); have z4_ := Aside0.mk (hs.2 _ _ BKbp.out NBP.out.1); have z5_ := Aside0.mk (tfm_Read.R_st HRc.out rfl hs hgi (by decide)); have z6_ := Aside0.mk (tfm_Read.st_set HRw.out hs hgi); have HR8 := Aside0.mk hr; have HLT := Aside0.mk hlt_; have z7_ := Aside0.mk hh; have z8_ := Aside0.mk hb; clear H0 HB BKgr BKgm BKgf BKbp HRc HRw hxm hxp hh hb hs hr hgi hlt_; have BKgr := z1_; have BKgm := z2_; have BKgf := z3_; have BKbp := z4_; have HRc := z5_; have HRw := z6_; have H0 := z7_; have HB := z8_; clear z1_ z2_ z3_ z4_ z5_ z6_ z7_ z8_; have hxf := (blk_cell BKgf.out (4 + i)).trans (tfm_Read.font_at _ _ us i HUS.out (by omega)); have hyf := blk_frozen BKgf.out (4 + i)))
     go_roundw
     case rel =>
      have h8 := HUS.out
      obtain ⟨_, hgi⟩ := tfm_Read.holds_in H0.out
      refine ⟨i + 1, y', b', us ++ [.slice A8 lr.length c8], ls ++ [lr], by omega, by go_num, by rw [List.length_append, h8]; rfl, HA, ⟨tfm_Read.holds_font H0.out GEgf.out NBgf_g.out BKgf.out⟩, ⟨HB.out.setCell (p := ⟨gf, 4 + i, none⟩) GEgf.out _⟩, ⟨(Below.heap_setCell w8 ⟨gf, 4 + i, none⟩ _ gr NBgr_gf.out).trans BKgr.out⟩, ⟨(Below.heap_setCell w8 ⟨gf, 4 + i, none⟩ _ gm NBgm_gf.out).trans BKgm.out⟩, ⟨blk_put BKgf.out (4 + i) _ (tfm_Read.font_set _ _ us _ _ h8 (by omega))⟩, ⟨tfm_Read.R_font HRc.out rfl BKgf.out (by decide)⟩, ⟨tfm_Read.rows_font (tfm_Read.rows_snoc HRw.out HR8.out HLT.out) BKgf.out⟩, ⟨fun v hv => ?_⟩, ⟨(Below.heap_setCell w8 ⟨gf, 4 + i, none⟩ _ bp NBP.out.2).trans BKbp.out⟩⟩
      rcases List.mem_append.1 hv with hv | hv
      ·exact HSl.out v hv
      ·exact ⟨A8, lr.length, c8, by simpa using hv⟩
     case measure => simp [intOf]; omega
    ·obtain rfl : i = 4 := by omega
     have hq := HQ.out
     rw [Nat.sub_self, tfm_Read.four_] at hq
     obtain ⟨rfl, rfl, rfl⟩ : lw = ls ∧ y8 = ys ∧ b8 = bd := by have := Option.some.inj hq; simp only [Prod.mk.injEq] at this; exact ⟨this.1.symm, this.2.1.symm, this.2.2.symm⟩
     clear hq HQ
     obtain ⟨u4, u5, u6, u7, rfl⟩ := tfm_Read.fourV HUS.out
     obtain ⟨l4, l5, l6, l7, rfl⟩ := tfm_Read.fourL (by rw [← HRw.out.1]; rfl : lw.length = 4)
     obtain ⟨A4, c4, rfl⟩ := Kd.R_slice (HRw.out.2.1 0 u4 l4 rfl rfl)
     obtain ⟨A5, c5, rfl⟩ := Kd.R_slice (HRw.out.2.1 1 u5 l5 rfl rfl)
     obtain ⟨A6, c6, rfl⟩ := Kd.R_slice (HRw.out.2.1 2 u6 l6 rfl rfl)
     obtain ⟨A7, c7, rfl⟩ := Kd.R_slice (HRw.out.2.1 3 u7 l7 rfl rfl)
     have zf_ := Aside0.mk (show wr.heap[gf]? = some (.cells #[Value.int .i64 n5, .int .i64 n6, .int .i64 n3, .slice Ac ch.length cc, .slice A4 l4.length c4, .slice A5 l5.length c5, .slice A6 l6.length c6, .slice A7 l7.length c7, .slice none 0 0, .slice none 0 0, .slice none 0 0] 26 (0, 0)) from BKgf.out)
     have h := HH.out
     clear BKgf HH hus HUS HSl BKbp NBP
     have BKgf := zf_
     have hxgf := blk_cell BKgf.out
     have hygf := blk_frozen BKgf.out
     obtain ⟨m4, hm4⟩ : ∃ m, m = ms.getD 4 0 := ⟨_, rfl⟩
     obtain ⟨m5, hm5⟩ : ∃ m, m = ms.getD 5 0 := ⟨_, rfl⟩
     obtain ⟨m7, hm7⟩ : ∃ m, m = ms.getD 7 0 := ⟨_, rfl⟩
     simp only [← hm4, ← hm5, ← hm7] at h
     have HZ4 := Aside0.mk (show m4 < 1000000 from by rw [hm4]; exact HMA.out 4)
     have HZ5 := Aside0.mk (show m5 < 1000000 from by rw [hm5]; exact HMA.out 5)
     have HZ7 := Aside0.mk (show m7 < 1000000 from by rw [hm7]; exact HMA.out 7)
     have HX4 := Aside0.mk (show (ms.map fun n => Value.int .i64 n).toArray[4]? = some (.int .i64 m4) from by rw [hm4]; exact tfm_Read.at8 ms 4 (by have := HL8.out; omega))
     have HX5 := Aside0.mk (show (ms.map fun n => Value.int .i64 n).toArray[5]? = some (.int .i64 m5) from by rw [hm5]; exact tfm_Read.at8 ms 5 (by have := HL8.out; omega))
     have HX7 := Aside0.mk (show (ms.map fun n => Value.int .i64 n).toArray[7]? = some (.int .i64 m7) from by rw [hm7]; exact tfm_Read.at8 ms 7 (by have := HL8.out; omega))
     obtain ⟨⟨sh, y9, b9⟩, hE2⟩ : ∃ p, p = tfm_in_each.f m4.toNat y8 b8 [] := ⟨_, rfl⟩
     simp only [← hE2] at h
     have HE2 := Aside0.mk hE2
     obtain ⟨⟨l9, y10, b10⟩, q9, h⟩ := Option.bind_eq_some_iff.mp h
     obtain ⟨⟨l10, y11, b11⟩, q10, h⟩ := Option.bind_eq_some_iff.mp h
     have Q9 := Aside0.mk (show tfm_in_fixes.f k m5.toNat y9 b9 [] = some (l9, y10, b10) from q9)
     have Q10 := Aside0.mk (show tfm_in_fixes.f k m7.toNat y10 b10 [] = some (l10, y11, b11) from q10)
     have HH := Aside0.mk (show tfm_Read.end_ k n5 n6 n3 (ch.map tfm_Read.char) l4 l5 l6 l7 (sh.map tfm_Read.step) l9 l10 y11 b11 = some r from h)
     have hxm := (blk_cell BKgm.out 4).trans HX4.out
     clear hm4 hm5 hm7 hE2 q9 q10 h HMA HL8
     go_upto_region 23 with (first | (go_at_call 37; (with_reducible refine (tfm_Read.eachs w wr gf gr gm g #[.int .i64 0, .int .i64 0, .int .i64 0, .slice none 0 0, .slice none 0 0, .slice none 0 0, .slice none 0 0, .slice none 0 0, .slice none 0 0, .slice none 0 0, .slice none 0 0] (ms.map fun n => Value.int .i64 n).toArray (fun u => Kd.R k42 42 u w.heap.size (fun _ => True) (.slice Ac ch.length cc) (ch.map tfm_Read.char)) (fun u1 j v cs hX hg => tfm_Read.R_st hX rfl (tfm_in_take.stays_set j v) hg (by decide)) (fun u1 u2 cf hX hf hp => tfm_Read.X_q hX hf hp) _ HZ4.out y8 b8 _ _ _ _ _ _ _ _ _ _ HB.out GEg.out GEgf.out NBgr_gf.out NBgm_gf.out H0.out BKgf.out BKgr.out BKgm.out HRc.out).mono ?_); rintro e w7' ⟨rfl, hi, hh, hb, hk⟩; rw [← HE2.out] at hi hh; have HI := Aside0.mk hi; have z1_ := Aside0.mk hh; have z2_ := Aside0.mk hb; have z3_ := Aside0.mk (tfm_Read.rows_keep HRw.out (fun k cells hc => hk.2.2 k cells _ _ hc (by decide) (by decide) (by decide) (by decide) (by decide))); clear H0 HB BKgr BKgm BKgf hxgf hygf HRc HRw hxm hi hh hb hk; have H0 := z1_; have HB := z2_; have HRw := z3_; clear z1_ z2_ z3_))
     obtain ⟨A8, c8, i1, i2, i3, i4, i5⟩ := HI.out
     have BKgf := Aside0.mk i1
     have HRs := Aside0.mk i2
     have BKgr := Aside0.mk i3
     have BKgm := Aside0.mk i4
     have HRc := Aside0.mk i5
     have hxm := (blk_cell i4 5).trans HX5.out
     have hxgf := blk_cell i1
     have hygf := blk_frozen i1
     clear i1 i2 i3 i4 i5 HI HE2 HZ4 HX4
     go_upto_region 24 with (first | (go_at_call 39; have hlt_ := tfm_Read.rows_lt HRw.out; (with_reducible refine (tfm_in_fixes.calls k m5 HZ5.out y9 b9 l9 y10 b10 g w _ HB.out GEg.out H0.out Q9.out).mono ?_); rintro e w8 ⟨v8, rfl, hr, hh, hb, hs⟩; obtain ⟨A9, c9, e8⟩ := Kd.R_slice hr; subst e8; obtain ⟨_, hgi⟩ := tfm_Read.holds_in H0.out; have z1_ := Aside0.mk (hs.2 _ _ BKgr.out NBgr_g.out); have z2_ := Aside0.mk (hs.2 _ _ BKgm.out NBgm_g.out); have z3_ := Aside0.mk (hs.2 _ _ BKgf.out NBgf_g.out); have z5_ := Aside0.mk (tfm_Read.R_st HRc.out rfl hs hgi (by decide)); have z9_ := Aside0.mk (tfm_Read.R_st HRs.out rfl hs hgi (by decide)); have z6_ := Aside0.mk (tfm_Read.rows_snoc (tfm_Read.st_set HRw.out hs hgi) hr hlt_); have z7_ := Aside0.mk hh; have z8_ := Aside0.mk hb; clear H0 HB BKgr BKgm BKgf hxgf hygf HRc HRs HRw hxm hh hb hs hr hgi hlt_; have BKgr := z1_; have BKgm := z2_; have BKgf := z3_; have HRc := z5_; have HRs := z9_; have HRw := z6_; have H0 := z7_; have HB := z8_; clear z1_ z2_ z3_ z5_ z6_ z7_ z8_ z9_; have hxgf := blk_cell BKgf.out; have hygf := blk_frozen BKgf.out))
     have P1 := blk_put (cs' := #[Value.int .i64 n5, .int .i64 n6, .int .i64 n3, .slice Ac ch.length cc, .slice A4 l4.length c4, .slice A5 l5.length c5, .slice A6 l6.length c6, .slice A7 l7.length c7, .slice A8 sh.length c8, .slice A9 l9.length c9, .slice none 0 0]) BKgf.out 9 (.slice A9 l9.length c9) rfl
     have z1_ := Aside0.mk (tfm_Read.holds_font (j := 9) (v := .slice A9 l9.length c9) H0.out GEgf.out NBgf_g.out BKgf.out)
     have z2_ := Aside0.mk (HB.out.setCell (p := ⟨gf, 9, none⟩) GEgf.out (.slice A9 l9.length c9))
     have z3_ := Aside0.mk ((Below.heap_setCell w8 ⟨gf, 9, none⟩ (.slice A9 l9.length c9) gr NBgr_gf.out).trans BKgr.out)
     have z4_ := Aside0.mk ((Below.heap_setCell w8 ⟨gf, 9, none⟩ (.slice A9 l9.length c9) gm NBgm_gf.out).trans BKgm.out)
     have z5_ := Aside0.mk (tfm_Read.R_font (j := 9) (v2 := .slice A9 l9.length c9) HRc.out rfl BKgf.out (by decide))
     have z6_ := Aside0.mk (tfm_Read.R_font (j := 9) (v2 := .slice A9 l9.length c9) HRs.out rfl BKgf.out (by decide))
     have z7_ := Aside0.mk (tfm_Read.rows_font (j := 9) (v := .slice A9 l9.length c9) HRw.out BKgf.out)
     generalize w8.setCell ⟨gf, 9, none⟩ (.slice A9 l9.length c9) = w9 at P1 z1_ z2_ z3_ z4_ z5_ z6_ z7_ ⊢
     clear H0 HB BKgr BKgm BKgf hxgf hygf HRc HRs HRw
     have H0 := z1_
     have HB := z2_
     have BKgr := z3_
     have BKgm := z4_
     have HRc := z5_
     have HRs := z6_
     have HRw := z7_
     have BKgf := Aside0.mk P1
     have hxgf := blk_cell P1
     have hygf := blk_frozen P1
     clear P1 z1_ z2_ z3_ z4_ z5_ z6_ z7_
     have hxm := (blk_cell BKgm.out 7).trans HX7.out
     go_upto_region 25 with (first | (go_at_call 39; have hlt_ := tfm_Read.rows_lt HRw.out; (with_reducible refine (tfm_in_fixes.calls k m7 HZ7.out y10 b10 l10 y11 b11 g w _ HB.out GEg.out H0.out Q10.out).mono ?_); rintro e w8 ⟨v8, rfl, hr, hh, hb, hs⟩; obtain ⟨A10, c10, e8⟩ := Kd.R_slice hr; subst e8; obtain ⟨_, hgi⟩ := tfm_Read.holds_in H0.out; have z1_ := Aside0.mk (hs.2 _ _ BKgr.out NBgr_g.out); have z2_ := Aside0.mk (hs.2 _ _ BKgm.out NBgm_g.out); have z3_ := Aside0.mk (hs.2 _ _ BKgf.out NBgf_g.out); have z5_ := Aside0.mk (tfm_Read.R_st HRc.out rfl hs hgi (by decide)); have z9_ := Aside0.mk (tfm_Read.R_st HRs.out rfl hs hgi (by decide)); have z6_ := Aside0.mk (tfm_Read.rows_snoc (tfm_Read.st_set HRw.out hs hgi) hr hlt_); have z7_ := Aside0.mk hh; have z8_ := Aside0.mk hb; clear H0 HB BKgr BKgm BKgf hxgf hygf HRc HRs HRw hxm hh hb hs hr hgi hlt_; have BKgr := z1_; have BKgm := z2_; have BKgf := z3_; have HRc := z5_; have HRs := z9_; have HRw := z6_; have H0 := z7_; have HB := z8_; clear z1_ z2_ z3_ z5_ z6_ z7_ z8_ z9_; have hxgf := blk_cell BKgf.out; have hygf := blk_frozen BKgf.out))
     have P1 := blk_put (cs' := #[Value.int .i64 n5, .int .i64 n6, .int .i64 n3, .slice Ac ch.length cc, .slice A4 l4.length c4, .slice A5 l5.length c5, .slice A6 l6.length c6, .slice A7 l7.length c7, .slice A8 sh.length c8, .slice A9 l9.length c9, .slice A10 l10.length c10]) BKgf.out 10 (.slice A10 l10.length c10) rfl
     have z1_ := Aside0.mk (tfm_Read.holds_font (j := 10) (v := .slice A10 l10.length c10) H0.out GEgf.out NBgf_g.out BKgf.out)
     have z2_ := Aside0.mk (HB.out.setCell (p := ⟨gf, 10, none⟩) GEgf.out (.slice A10 l10.length c10))
     have z3_ := Aside0.mk ((Below.heap_setCell w8 ⟨gf, 10, none⟩ (.slice A10 l10.length c10) gr NBgr_gf.out).trans BKgr.out)
     have z4_ := Aside0.mk ((Below.heap_setCell w8 ⟨gf, 10, none⟩ (.slice A10 l10.length c10) gm NBgm_gf.out).trans BKgm.out)
     have z5_ := Aside0.mk (tfm_Read.R_font (j := 10) (v2 := .slice A10 l10.length c10) HRc.out rfl BKgf.out (by decide))
     have z6_ := Aside0.mk (tfm_Read.R_font (j := 10) (v2 := .slice A10 l10.length c10) HRs.out rfl BKgf.out (by decide))
     have z7_ := Aside0.mk (tfm_Read.rows_font (j := 10) (v := .slice A10 l10.length c10) HRw.out BKgf.out)
     generalize w8.setCell ⟨gf, 10, none⟩ (.slice A10 l10.length c10) = w9 at P1 z1_ z2_ z3_ z4_ z5_ z6_ z7_ ⊢
     clear H0 HB BKgr BKgm BKgf hxgf hygf HRc HRs HRw
     have H0 := z1_
     have HB := z2_
     have BKgr := z3_
     have BKgm := z4_
     have HRc := z5_
     have HRs := z6_
     have HRw := z7_
     have BKgf := Aside0.mk P1
     have hxgf := blk_cell P1
     have hygf := blk_frozen P1
     clear P1 z1_ z2_ z3_ z4_ z5_ z6_ z7_
     have h := HH.out
     clear HH
     unfold tfm_Read.end_ at h
     obtain ⟨Ab, cb, h1, h2, h3⟩ := H0.out
     have BKg := Aside0.mk h1
     have hxg := blk_cell h1
     have hyg := blk_frozen h1
     have hxgr := blk_cell BKgr.out
     have hygr := blk_frozen BKgr.out
     clear h1 h2 h3 H0 BKgm HX5 HX7 HZ5 HZ7 Q9 Q10
     cases b11 with
     | true =>
      rw [if_pos rfl] at h
      obtain rfl := Option.some.inj h
      clear h
      go_wp2
      (try simp only [Exit.inBlock, Exit.then])
      have hst_ := tfm_Read.stored (d0 := .int .i64 0) (d1 := .int .i64 0) (d2 := .int .i64 0) (d3 := .slice none 0 0) (d4 := .slice none 0 0) (d5 := .slice none 0 0) (d6 := .slice none 0 0) (d7 := .slice none 0 0) (d8 := .slice none 0 0) (d9 := .slice none 0 0) (d10 := .slice none 0 0) BKgr.out HB.out GEgr.out
      refine bodyPost_ret (results_ct rfl _ _ gr 26 #[.int .i64 0, .int .i64 0, .int .i64 0, .slice none 0 0, .slice none 0 0, .slice none 0 0, .slice none 0 0, .slice none 0 0, .slice none 0 0, .slice none 0 0, .slice none 0 0] (0, 0) _ rfl hst_.1 hu26 rfl (by kernel_rfl)) rfl ?_
      exact ⟨_, _, _, _, _, _, _, _, rfl, Kd.R_nil _ _ _ _ _, Kd.R_nil _ _ _ _ _, Kd.R_nil _ _ _ _ _, Kd.R_nil _ _ _ _ _, Kd.R_nil _ _ _ _ _, Kd.R_nil _ _ _ _ _, Kd.R_nil _ _ _ _ _, Kd.R_nil _ _ _ _ _, hst_.2.1⟩
     | false =>
     rw [if_neg (by decide)] at h
     by_cases hl : y11.length > 0
     ·rw [if_pos hl] at h
      obtain rfl := Option.some.inj h
      have e1 : decide (0 < (y11.length : Int)) = true := decide_eq_true (by omega)
      have e2 : decide (0 < y11.length) = true := decide_eq_true hl
      clear h hl
      go_wp2
      (try simp only [Exit.inBlock, Exit.then])
      have hst_ := tfm_Read.stored (d0 := .int .i64 0) (d1 := .int .i64 0) (d2 := .int .i64 0) (d3 := .slice none 0 0) (d4 := .slice none 0 0) (d5 := .slice none 0 0) (d6 := .slice none 0 0) (d7 := .slice none 0 0) (d8 := .slice none 0 0) (d9 := .slice none 0 0) (d10 := .slice none 0 0) BKgr.out HB.out GEgr.out
      refine bodyPost_ret (results_ct rfl _ _ gr 26 #[.int .i64 0, .int .i64 0, .int .i64 0, .slice none 0 0, .slice none 0 0, .slice none 0 0, .slice none 0 0, .slice none 0 0, .slice none 0 0, .slice none 0 0, .slice none 0 0] (0, 0) _ rfl hst_.1 hu26 rfl (by kernel_rfl)) rfl ?_
      exact ⟨_, _, _, _, _, _, _, _, rfl, Kd.R_nil _ _ _ _ _, Kd.R_nil _ _ _ _ _, Kd.R_nil _ _ _ _ _, Kd.R_nil _ _ _ _ _, Kd.R_nil _ _ _ _ _, Kd.R_nil _ _ _ _ _, Kd.R_nil _ _ _ _ _, Kd.R_nil _ _ _ _ _, hst_.2.1⟩
     rw [if_neg hl] at h
     have e1 : decide (0 < (y11.length : Int)) = false := decide_eq_false (by omega)
     have e2 : decide (0 < y11.length) = false := decide_eq_false hl
     obtain ⟨cq, hcq, h⟩ := Option.bind_eq_some_iff.mp h
     have hlc : ch.length = (ch.map tfm_Read.char).length := (List.length_map _).symm
     have hls : sh.length = (sh.map tfm_Read.step).length := (List.length_map _).symm
     have p1 := BKgf.out
     have p2 := HRc.out
     have p3 := HRs.out
     rw [hlc, hls] at p1
     rw [hlc] at p2
     rw [hls] at p3
     clear hlc hls hl BKgf hxgf hygf HRc HRs
     generalize ch.map tfm_Read.char = cs at h hcq p1 p2 p3
     generalize sh.map tfm_Read.step = ss at h hcq p1 p2 p3
     have BKgf := Aside0.mk p1
     have hxgf := blk_cell p1
     have hygf := blk_frozen p1
     have HRc := Aside0.mk p2
     have HRs := Aside0.mk p3
     have rd := fun (j : Nat) (v : Value) (l : List Int) (hv) (hl) => HRw.out.2.1 j v l hv hl
     have HCK := Aside0.mk (tfm_Check.calls k n5 n6 n3 Ac cc cs A4 c4 l4 A5 c5 l5 A6 c6 l6 A7 c7 l7 A8 c8 ss A9 c9 l9 A10 c10 l10 cq w9 (Kd.R_reads' p2).2.2 (Kd.R_reads' p2).2.1 (Kd.R_reads' (rd 0 _ _ rfl rfl)).2.2 (Kd.R_reads' (rd 0 _ _ rfl rfl)).2.1 (Kd.R_reads' (rd 1 _ _ rfl rfl)).2.2 (Kd.R_reads' (rd 1 _ _ rfl rfl)).2.1 (Kd.R_reads' (rd 2 _ _ rfl rfl)).2.2 (Kd.R_reads' (rd 2 _ _ rfl rfl)).2.1 (Kd.R_reads' (rd 3 _ _ rfl rfl)).2.2 (Kd.R_reads' (rd 3 _ _ rfl rfl)).2.1 (Kd.R_reads' p3).2.2 (Kd.R_reads' p3).2.1 (Kd.R_reads' (rd 4 _ _ rfl rfl)).2.2 (Kd.R_reads' (rd 4 _ _ rfl rfl)).2.1 (Kd.R_reads' (rd 5 _ _ rfl rfl)).2.2 (Kd.R_reads' (rd 5 _ _ rfl rfl)).2.1 hcq)
     clear p1 p2 p3 rd hcq
     cases cq with
     | false =>
      rw [if_neg (by decide)] at h
      obtain rfl := Option.some.inj h
      clear h
      go_wp2_with (first | ((with_reducible refine gate_load (T := 26) rfl ?_); refine load_row_event (by first | rfl | (go_simp; done)) 26 _ rfl gf rfl 26 _ (0, 0) _ BKgf.out hu26 rfl (by kernel_rfl) ?_) | (go_at_call 13; (with_reducible refine HCK.out.mono ?_); rintro e w11 ⟨rfl, hb⟩; have z1_ := Aside0.mk (blk_below BKgr.out hb); have z2_ := Aside0.mk (blk_below BKgf.out hb); have z3_ := Aside0.mk (Kd.R_below HRc.out hb); have z4_ := Aside0.mk (Kd.R_below HRs.out hb); have z5_ := Aside0.mk (tfm_Read.rows_keep HRw.out (fun k cells hk => hb.block k (Array.getElem?_eq_some_iff.1 hk).1)); have z6_ := Aside0.mk (below_step HB.out hb); clear BKgr hxgr hygr BKgf hxgf hygf HRc HRs HRw HB hb; have BKgr := z1_; have BKgf := z2_; have HRc := z3_; have HRs := z4_; have HRw := z5_; have HB := z6_; clear z1_ z2_ z3_ z4_ z5_ z6_; have hxgr := blk_cell BKgr.out; have hygr := blk_frozen BKgr.out; have hxgf := blk_cell BKgf.out; have hygf := blk_frozen BKgf.out))
      (try simp only [Exit.inBlock, Exit.then])
      have hst_ := tfm_Read.stored (d0 := .int .i64 0) (d1 := .int .i64 0) (d2 := .int .i64 0) (d3 := .slice none 0 0) (d4 := .slice none 0 0) (d5 := .slice none 0 0) (d6 := .slice none 0 0) (d7 := .slice none 0 0) (d8 := .slice none 0 0) (d9 := .slice none 0 0) (d10 := .slice none 0 0) BKgr.out HB.out GEgr.out
      refine bodyPost_ret (results_ct rfl _ _ gr 26 #[.int .i64 0, .int .i64 0, .int .i64 0, .slice none 0 0, .slice none 0 0, .slice none 0 0, .slice none 0 0, .slice none 0 0, .slice none 0 0, .slice none 0 0, .slice none 0 0] (0, 0) _ rfl hst_.1 hu26 rfl (by kernel_rfl)) rfl ?_
      exact ⟨_, _, _, _, _, _, _, _, rfl, Kd.R_nil _ _ _ _ _, Kd.R_nil _ _ _ _ _, Kd.R_nil _ _ _ _ _, Kd.R_nil _ _ _ _ _, Kd.R_nil _ _ _ _ _, Kd.R_nil _ _ _ _ _, Kd.R_nil _ _ _ _ _, Kd.R_nil _ _ _ _ _, hst_.2.1⟩
     | true =>
      rw [if_pos rfl] at h
      obtain rfl := Option.some.inj h
      clear h
      go_wp2_with (first | ((with_reducible refine gate_load (T := 26) rfl ?_); refine load_row_event (by first | rfl | (go_simp; done)) 26 _ rfl gf rfl 26 _ (0, 0) _ BKgf.out hu26 rfl (by kernel_rfl) ?_) | (go_at_call 13; (with_reducible refine HCK.out.mono ?_); rintro e w11 ⟨rfl, hb⟩; have z1_ := Aside0.mk (blk_below BKgr.out hb); have z2_ := Aside0.mk (blk_below BKgf.out hb); have z3_ := Aside0.mk (Kd.R_below HRc.out hb); have z4_ := Aside0.mk (Kd.R_below HRs.out hb); have z5_ := Aside0.mk (tfm_Read.rows_keep HRw.out (fun k cells hk => hb.block k (Array.getElem?_eq_some_iff.1 hk).1)); have z6_ := Aside0.mk (below_step HB.out hb); clear BKgr hxgr hygr BKgf hxgf hygf HRc HRs HRw HB hb; have BKgr := z1_; have BKgf := z2_; have HRc := z3_; have HRs := z4_; have HRw := z5_; have HB := z6_; clear z1_ z2_ z3_ z4_ z5_ z6_; have hxgr := blk_cell BKgr.out; have hygr := blk_frozen BKgr.out; have hxgf := blk_cell BKgf.out; have hygf := blk_frozen BKgf.out))
      (try simp only [Exit.inBlock, Exit.then])
      have hst_ := tfm_Read.stored (d0 := .int .i64 n5) (d1 := .int .i64 n6) (d2 := .int .i64 n3) (d3 := .slice Ac cs.length cc) (d4 := .slice A4 l4.length c4) (d5 := .slice A5 l5.length c5) (d6 := .slice A6 l6.length c6) (d7 := .slice A7 l7.length c7) (d8 := .slice A8 ss.length c8) (d9 := .slice A9 l9.length c9) (d10 := .slice A10 l10.length c10) BKgr.out HB.out GEgr.out
      refine bodyPost_ret (results_ct rfl _ _ gr 26 #[.int .i64 n5, .int .i64 n6, .int .i64 n3, .slice Ac cs.length cc, .slice A4 l4.length c4, .slice A5 l5.length c5, .slice A6 l6.length c6, .slice A7 l7.length c7, .slice A8 ss.length c8, .slice A9 l9.length c9, .slice A10 l10.length c10] (0, 0) _ rfl hst_.1 hu26 rfl (by kernel_rfl)) rfl ?_
      have hne : ∀ {k : Nat} {cells : Array Value} {t2 : TypeId}, w11.heap[k]? = some (.cells cells t2 (0, 0)) → t2 ≠ 26 → k ≠ gr := fun hk ht e => by
       have h9 := BKgr.out
       subst e
       rw [hk] at h9
       simp only [Option.some.injEq, Obj.cells.injEq] at h9
       exact ht h9.2.1
      have hrows := tfm_Read.rows_keep HRw.out (fun k cells hk => hst_.2.2 k (hne hk (by decide)))
      exact ⟨_, _, _, _, _, _, _, _, rfl, Kd.R_mono (Kd.R_step (Kd.R_tight rfl HRc.out) (fun j hj _ => by obtain ⟨cells, hcs⟩ := Kd.R_typed HRc.out j hj.symm; exact hst_.2.2 j (hne hcs (by decide)))) (fun _ _ => trivial), tfm_Read.of_six hrows 0 _ l4 rfl rfl _ (fun k hk => ⟨hk 1 _ (by decide) rfl, hk 2 _ (by decide) rfl, hk 3 _ (by decide) rfl, hk 4 _ (by decide) rfl, hk 5 _ (by decide) rfl⟩), tfm_Read.of_six hrows 1 _ l5 rfl rfl _ (fun k hk => ⟨hk 0 _ (by decide) rfl, hk 2 _ (by decide) rfl, hk 3 _ (by decide) rfl, hk 4 _ (by decide) rfl, hk 5 _ (by decide) rfl⟩), tfm_Read.of_six hrows 2 _ l6 rfl rfl _ (fun k hk => ⟨hk 0 _ (by decide) rfl, hk 1 _ (by decide) rfl, hk 3 _ (by decide) rfl, hk 4 _ (by decide) rfl, hk 5 _ (by decide) rfl⟩), tfm_Read.of_six hrows 3 _ l7 rfl rfl _ (fun k hk => ⟨hk 0 _ (by decide) rfl, hk 1 _ (by decide) rfl, hk 2 _ (by decide) rfl, hk 4 _ (by decide) rfl, hk 5 _ (by decide) rfl⟩), Kd.R_mono (Kd.R_step (Kd.R_tight rfl HRs.out) (fun j hj _ => by obtain ⟨cells, hcs⟩ := Kd.R_typed HRs.out j hj.symm; exact hst_.2.2 j (hne hcs (by decide)))) (fun _ _ => trivial), tfm_Read.of_six hrows 4 _ l9 rfl rfl _ (fun k hk => ⟨hk 0 _ (by decide) rfl, hk 1 _ (by decide) rfl, hk 2 _ (by decide) rfl, hk 3 _ (by decide) rfl, hk 5 _ (by decide) rfl⟩), tfm_Read.of_six hrows 5 _ l10 rfl rfl _ (fun k hk => ⟨hk 0 _ (by decide) rfl, hk 1 _ (by decide) rfl, hk 2 _ (by decide) rfl, hk 3 _ (by decide) rfl, hk 4 _ (by decide) rfl⟩), hst_.2.1⟩
theorem tfm_Read.calls (k : Nat) (A0 : Option Addr) (c0 : Nat) (l0 : List Int) (r1 : Int) (r2 : Int) (r3 : Int) (r4 : List S42) (r5 : List Int) (r6 : List Int) (r7 : List Int) (r8 : List Int) (r9 : List S51) (r10 : List Int) (r11 : List Int) (r12 : Int) (w : World) (hr0 : Kd.C (Kd.int .u8) w A0 l0.length l0) (hc0 : l0.length ≤ c0) (h : tfm_Read.f k l0 = some (r1, r2, r3, r4, r5, r6, r7, r8, r9, r10, r11, r12)) :
  Calls Try.prog 17 #[.slice A0 l0.length c0] w fun e w' => ∃ v3_ v4_ v5_ v6_ v7_ v8_ v9_ v10_ : Value, e = .returned (.tuple #[.agg #[.int .i64 r1, .int .i64 r2, .int .i64 r3, v3_, v4_, v5_, v6_, v7_, v8_, v9_, v10_], .int .i64 r12]) ∧ Kd.R k42 42 w' w.heap.size (fun _ => True) v3_ r4 ∧ Kd.R (Kd.int .i64) 3 w' w.heap.size (fun k_ => some k_ ≠ (v5_ : Value).ownBlock ∧ some k_ ≠ (v6_ : Value).ownBlock ∧ some k_ ≠ (v7_ : Value).ownBlock ∧ some k_ ≠ (v9_ : Value).ownBlock ∧ some k_ ≠ (v10_ : Value).ownBlock) v4_ r5 ∧ Kd.R (Kd.int .i64) 3 w' w.heap.size (fun k_ => some k_ ≠ (v4_ : Value).ownBlock ∧ some k_ ≠ (v6_ : Value).ownBlock ∧ some k_ ≠ (v7_ : Value).ownBlock ∧ some k_ ≠ (v9_ : Value).ownBlock ∧ some k_ ≠ (v10_ : Value).ownBlock) v5_ r6 ∧ Kd.R (Kd.int .i64) 3 w' w.heap.size (fun k_ => some k_ ≠ (v4_ : Value).ownBlock ∧ some k_ ≠ (v5_ : Value).ownBlock ∧ some k_ ≠ (v7_ : Value).ownBlock ∧ some k_ ≠ (v9_ : Value).ownBlock ∧ some k_ ≠ (v10_ : Value).ownBlock) v6_ r7 ∧ Kd.R (Kd.int .i64) 3 w' w.heap.size (fun k_ => some k_ ≠ (v4_ : Value).ownBlock ∧ some k_ ≠ (v5_ : Value).ownBlock ∧ some k_ ≠ (v6_ : Value).ownBlock ∧ some k_ ≠ (v9_ : Value).ownBlock ∧ some k_ ≠ (v10_ : Value).ownBlock) v7_ r8 ∧ Kd.R k51 51 w' w.heap.size (fun _ => True) v8_ r9 ∧ Kd.R (Kd.int .i64) 3 w' w.heap.size (fun k_ => some k_ ≠ (v4_ : Value).ownBlock ∧ some k_ ≠ (v5_ : Value).ownBlock ∧ some k_ ≠ (v6_ : Value).ownBlock ∧ some k_ ≠ (v7_ : Value).ownBlock ∧ some k_ ≠ (v10_ : Value).ownBlock) v9_ r10 ∧ Kd.R (Kd.int .i64) 3 w' w.heap.size (fun k_ => some k_ ≠ (v4_ : Value).ownBlock ∧ some k_ ≠ (v5_ : Value).ownBlock ∧ some k_ ≠ (v6_ : Value).ownBlock ∧ some k_ ≠ (v7_ : Value).ownBlock ∧ some k_ ≠ (v9_ : Value).ownBlock) v10_ r11 ∧ Below w.heap.size w w' := tfm_Read.core k A0 c0 l0 (r1, r2, r3, r4, r5, r6, r7, r8, r9, r10, r11, r12) w hr0 hc0 h


end Go.Proofs.Ytpijgpjoobffoaa.G
