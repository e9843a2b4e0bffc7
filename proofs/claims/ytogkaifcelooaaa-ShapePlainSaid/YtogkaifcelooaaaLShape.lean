/- Lines' shapes in closed form: what is left of a line, and from which on all are alike; the program's and the reference's. -/
import Derived.Test.YtogkaifcelooaaaGx4
import Derived.Test.YtogkaifcelooaaaGx5
import Derived.Test.YtogkaifcelooaaaGx10
import Derived.Test.YtogkaifcelooaaaGx11
import Derived.Test.YtogkaifcelooaaaLLay
namespace Go.Proofs.Ytogkaifcelooaaa.L
open Go.RowKit Go.Proofs.Ytogkaifcelooaaa.G Go.Proofs.YtogkaifcelooaaaMy Go.Proofs.YtogkaifcelooaaaW.PrintWords Go.Proofs.YtogkaifcelooaaaW.PrintLast Go.Proofs.YtogkaifcelooaaaW.PrintMore
set_option linter.unusedVariables false
set_option linter.unusedSimpArgs false
/-- What is left of a line. -/
def leftV (x0 : Int) (l : List S27) (x5 x6 k : Int) : Int × Int :=
  if 0 < l.length then ((rd_T27 l (mn k (l.length : Int) - 1)).f0, (rd_T27 l (mn k (l.length : Int) - 1)).f1)
  else if (if x6 < 0 then decide (k ≤ -x6) else decide (k > x6)) = true then (if x5 < 0 then 0 else x5, if x5 < 0 then x0 + x5 else x0 - x5) else (0, x0)
theorem left_f (x0 x1 x2 x3 : Int) (l : List S27) (x5 x6 x7 x8 x9 x10 x11 x12 x13 x14 x15 x16 x17 x18 x19 x20 : Int) (k : Int) (h : okLay x0 x1 x2 x3 l x5 x6 x7 x8 x9 x10 x11 x12 x13 x14 x15 x16 x17 x18 x19 x20 = true) (h1 : 1 ≤ k) (h2 : k ≤ 200) : shape_left.f x0 x1 x2 x3 l x5 x6 x7 x8 x9 x10 x11 x12 x13 x14 x15 x16 x17 x18 x19 x20 k = some (leftV x0 l x5 x6 k) := by
  have hb := okLay_iff x0 x1 x2 x3 l x5 x6 x7 x8 x9 x10 x11 x12 x13 x14 x15 x16 x17 x18 x19 x20 h
  have b0 := hb.b0
  have b5 := hb.b5
  have b6 := hb.b6
  unfold shape_left.f leftV
  rw [if_pos ⟨by omega, by omega, by omega, by omega, by omega, by omega, by omega, by omega⟩]
  by_cases c : 0 < l.length
  · rw [if_pos c, if_pos c]
  · rw [if_neg c, if_neg c]
    by_cases d : (if x6 < 0 then decide (k ≤ -x6) else decide (k > x6)) = true
    · rw [if_pos d, if_pos d]
    · rw [if_neg d, if_neg d]
theorem rleft_f (j : Nat) (x0 x1 x2 x3 : Int) (l : List S27) (x5 x6 x7 x8 x9 x10 x11 x12 x13 x14 x15 x16 x17 x18 x19 x20 : Int) (k : Int) (h : okLay x0 x1 x2 x3 l x5 x6 x7 x8 x9 x10 x11 x12 x13 x14 x15 x16 x17 x18 x19 x20 = true) (h1 : 1 ≤ k) (h2 : k ≤ 200) : compositorref15_Left.f (j + 2) x0 x1 x2 x3 l x5 x6 x7 x8 x9 x10 x11 x12 x13 x14 x15 x16 x17 x18 x19 x20 k = some (leftV x0 l x5 x6 k) := by
  have hb := okLay_iff x0 x1 x2 x3 l x5 x6 x7 x8 x9 x10 x11 x12 x13 x14 x15 x16 x17 x18 x19 x20 h
  have b0 := hb.b0
  have b4 := hb.b4
  have b5 := hb.b5
  have b6 := hb.b6
  unfold compositorref15_Left.f leftV
  by_cases c : 0 < l.length
  · have e : 1 ≤ mn k (l.length : Int) ∧ mn k (l.length : Int) ≤ (l.length : Int) := by unfold mn; split <;> omega
    rw [if_pos c, if_pos (by omega), wrap_in (n := mn k (l.length : Int) - 1) (by omega) (by omega), if_pos (by omega), if_pos (by omega)]
  · rw [if_neg c, if_neg (by omega), wrap_in (n := -x6) (by omega) (by omega)]
    have w1 : wrap64 (x0 - x5) = x0 - x5 := wrap_in (by omega) (by omega)
    have w2 : wrap64 (x0 + x5) = x0 + x5 := wrap_in (by omega) (by omega)
    have e : ∀ b : Bool, compositorref15_Left.j0 (j + 2) b x0 x1 x2 x3 l x5 x6 x7 x8 x9 x10 x11 x12 x13 x14 x15 x16 x17 x18 x19 x20 = some (if b = true then (if x5 < 0 then 0 else x5, if x5 < 0 then x0 + x5 else x0 - x5) else (0, x0)) := by
      intro b
      rw [compositorref15_Left.j0, compositorref15_Left.j1, compositorref15_Left.j1, w1, w2]
      cases b
      · simp
      · by_cases z : x5 < 0
        · have z' : ¬ x5 ≥ 0 := by omega
          simp [z, z']
        · have z' : x5 ≥ 0 := by omega
          simp [z, z']
    by_cases d : x6 < 0
    · rw [if_neg (by omega), if_pos d, e]
      simp only [d, if_true]
    · rw [if_pos (by omega)]
      simp only [d, if_false]
      by_cases g : k > x6
      · rw [if_pos g, e]; simp [g]
      · rw [if_neg g, e]; simp [g]
def atV (ok : Bool) (k : Int) (v : Int × Int) : Int × Int × Int := if ok = true then (if k < 1 then (0, 0, 1) else if k > 200 then (0, 0, 1) else (v.1, v.2, 0)) else (0, 0, 140)
theorem at_f (x0 x1 x2 x3 : Int) (l : List S27) (x5 x6 x7 x8 x9 x10 x11 x12 x13 x14 x15 x16 x17 x18 x19 x20 : Int) (k : Int) : shape_At.f x0 x1 x2 x3 l x5 x6 x7 x8 x9 x10 x11 x12 x13 x14 x15 x16 x17 x18 x19 x20 k = some (atV (okLay x0 x1 x2 x3 l x5 x6 x7 x8 x9 x10 x11 x12 x13 x14 x15 x16 x17 x18 x19 x20) k (leftV x0 l x5 x6 k)) := by
  unfold shape_At.f atV
  rw [pcheck]
  simp only [Option.bind_some]
  cases hok : okLay x0 x1 x2 x3 l x5 x6 x7 x8 x9 x10 x11 x12 x13 x14 x15 x16 x17 x18 x19 x20
  · rfl
  · simp only [if_true]
    by_cases c : k < 1
    · rw [if_pos c, if_pos c]
    · rw [if_neg c, if_neg c]
      by_cases d : k > 200
      · rw [if_pos d, if_pos d]
      · rw [if_neg d, if_neg d, left_f x0 x1 x2 x3 l x5 x6 x7 x8 x9 x10 x11 x12 x13 x14 x15 x16 x17 x18 x19 x20 k hok (by omega) (by omega)]
        rfl
theorem rat_f (j : Nat) (x0 x1 x2 x3 : Int) (l : List S27) (x5 x6 x7 x8 x9 x10 x11 x12 x13 x14 x15 x16 x17 x18 x19 x20 : Int) (k : Int) : compositorref15_At.f (j + l.length + 6) x0 x1 x2 x3 l x5 x6 x7 x8 x9 x10 x11 x12 x13 x14 x15 x16 x17 x18 x19 x20 k = some (atV (okLay x0 x1 x2 x3 l x5 x6 x7 x8 x9 x10 x11 x12 x13 x14 x15 x16 x17 x18 x19 x20) k (leftV x0 l x5 x6 k)) := by
  unfold compositorref15_At.f atV
  rw [rcheck]
  simp only [Option.bind_some]
  cases hok : okLay x0 x1 x2 x3 l x5 x6 x7 x8 x9 x10 x11 x12 x13 x14 x15 x16 x17 x18 x19 x20
  · rfl
  · simp only [if_true]
    by_cases c : k < 1
    · rw [if_pos c, if_pos c]
    · rw [if_neg c, if_neg c]
      by_cases d : k > 200
      · rw [if_pos d, if_pos d]
      · rw [if_neg d, if_neg d, rleft_f (j + l.length + 4) x0 x1 x2 x3 l x5 x6 x7 x8 x9 x10 x11 x12 x13 x14 x15 x16 x17 x18 x19 x20 k hok (by omega) (by omega)]
        rfl
/-- The first line from which on all are alike. -/
def fromV (g : Int → Int × Int) : Int := shape_From.scan (g 200) (shape_down_1.all g) 200
def tail (g : Int → Int × Int) (n : Nat) : List (Int × Int × Int) := (List.range n).map fun j : Nat => ((n : Int) - (j : Int), g ((n : Int) - (j : Int)))
theorem tail_succ (g : Int → Int × Int) (n : Nat) : tail g (n + 1) = (((n + 1 : Nat) : Int), g ((n + 1 : Nat) : Int)) :: tail g n := by
  unfold tail
  rw [List.range_succ_eq_map, List.map_cons, List.map_map, Int.natCast_zero, Int.sub_zero]
  congr 1
  apply List.map_congr_left
  intro j _
  show (((n + 1 : Nat) : Int) - ((j + 1 : Nat) : Int), g (((n + 1 : Nat) : Int) - ((j + 1 : Nat) : Int))) = _
  rw [show ((n + 1 : Nat) : Int) - ((j + 1 : Nat) : Int) = (n : Int) - (j : Int) by omega]
structure First (g : Int → Int × Int) (r : Int) : Prop where
  lo : 1 ≤ r
  hi : r ≤ 200
  same : ∀ k, r ≤ k → k ≤ 200 → g k = g 200
  other : 1 < r → g (r - 1) ≠ g 200
theorem scan_first (g : Int → Int × Int) : ∀ n : Nat, n ≤ 199 → (∀ k : Int, (n : Int) + 1 ≤ k → k ≤ 200 → g k = g 200) → First g (shape_From.scan (g 200) (tail g n) ((n : Int) + 1)) := by
  intro n
  induction n with
  | zero => exact fun _ h => ⟨by simp [tail, shape_From.scan], by simp [tail, shape_From.scan], fun k h1 h2 => h k (by simpa [tail, shape_From.scan] using h1) h2, fun h => by simp [tail, shape_From.scan] at h⟩
  | succ n ih =>
    intro hn h
    rw [tail_succ, shape_From.scan]
    by_cases c : g ((n + 1 : Nat) : Int) = g 200
    · rw [if_pos c]
      have := ih (by omega) (fun k h1 h2 => by
        by_cases e : k = ((n + 1 : Nat) : Int)
        · rw [e]; exact c
        · exact h k (by omega) h2)
      simpa using this
    · rw [if_neg c]
      exact ⟨by omega, by omega, h, fun _ => by rw [show ((n + 1 : Nat) : Int) + 1 - 1 = ((n + 1 : Nat) : Int) by omega]; exact c⟩
theorem from_first (g : Int → Int × Int) : First g (fromV g) := by
  have e : fromV g = shape_From.scan (g 200) (tail g 199) (((199 : Nat) : Int) + 1) := by
    have : shape_down_1.all g = tail g 200 := rfl
    unfold fromV
    rw [this, tail_succ, shape_From.scan, if_pos (by rfl)]
    rfl
  rw [e]
  exact scan_first g 199 (by omega) (fun k h1 h2 => by rw [show k = 200 by omega])
theorem first_uniq {g : Int → Int × Int} {r s : Int} (hr : First g r) (hs : First g s) : r = s := by
  by_cases c : r < s
  · exact absurd (hr.same (s - 1) (by omega) (by have := hs.hi; omega)) (hs.other (by have := hr.lo; omega))
  · by_cases d : s < r
    · exact absurd (hs.same (r - 1) (by omega) (by have := hr.hi; omega)) (hr.other (by have := hs.lo; omega))
    · omega
theorem all_congr {g g' : Int → Int × Int} (h : ∀ k : Int, 1 ≤ k → k ≤ 200 → g k = g' k) : shape_down_1.all g = shape_down_1.all g' := by
  unfold shape_down_1.all
  apply List.map_congr_left
  intro j hj
  have := List.mem_range.1 hj
  rw [h _ (by omega) (by omega)]
theorem from_f (x0 x1 x2 x3 : Int) (l : List S27) (x5 x6 x7 x8 x9 x10 x11 x12 x13 x14 x15 x16 x17 x18 x19 x20 : Int) : shape_From.f x0 x1 x2 x3 l x5 x6 x7 x8 x9 x10 x11 x12 x13 x14 x15 x16 x17 x18 x19 x20 = some (if okLay x0 x1 x2 x3 l x5 x6 x7 x8 x9 x10 x11 x12 x13 x14 x15 x16 x17 x18 x19 x20 = true then fromV (leftV x0 l x5 x6) else 0) := by
  unfold shape_From.f
  rw [pcheck]
  simp only [Option.bind_some]
  cases hok : okLay x0 x1 x2 x3 l x5 x6 x7 x8 x9 x10 x11 x12 x13 x14 x15 x16 x17 x18 x19 x20
  · rfl
  · have e : ∀ k : Int, 1 ≤ k → k ≤ 200 → shape_From.left x0 x1 x2 x3 l x5 x6 x7 x8 x9 x10 x11 x12 x13 x14 x15 x16 x17 x18 x19 x20 k = leftV x0 l x5 x6 k := fun k h1 h2 => by
      unfold shape_From.left
      rw [left_f x0 x1 x2 x3 l x5 x6 x7 x8 x9 x10 x11 x12 x13 x14 x15 x16 x17 x18 x19 x20 k hok h1 h2]
      rfl
    simp only [if_true]
    rw [if_pos (List.all_eq_true.2 fun j hj => by rw [left_f x0 x1 x2 x3 l x5 x6 x7 x8 x9 x10 x11 x12 x13 x14 x15 x16 x17 x18 x19 x20 _ hok (by omega) (by have := List.mem_range.1 hj; omega)]; rfl)]
    rw [all_congr e, e 200 (by omega) (by omega)]
    rfl
/-- Are all from k on alike? -/
def alike (g : Int → Int × Int) (k : Int) : Prop := ∀ m, k ≤ m → m ≤ 200 → g m = g 200
open Classical in
theorem rl1 (k : Nat) (x0 x1 x2 x3 : Int) (l : List S27) (x5 x6 x7 x8 x9 x10 x11 x12 x13 x14 x15 x16 x17 x18 x19 x20 : Int) (hok : okLay x0 x1 x2 x3 l x5 x6 x7 x8 x9 x10 x11 x12 x13 x14 x15 x16 x17 x18 x19 x20 = true) (hk : 2 ≤ k) (n : Int) (d : Nat) : ∀ (x : Int) (b : Bool), 1 ≤ x → x + (d : Int) = 201 → compositorref15_From.l1 (k + d + 1) n b x x0 x1 x2 x3 l x5 x6 x7 x8 x9 x10 x11 x12 x13 x14 x15 x16 x17 x18 x19 x20 = (if b = true ∧ alike (leftV x0 l x5 x6) x then some n else compositorref15_From.l0 k (wrap64 (n + 1)) x0 x1 x2 x3 l x5 x6 x7 x8 x9 x10 x11 x12 x13 x14 x15 x16 x17 x18 x19 x20) := by
  induction d with
  | zero =>
    intro x b h1 h2
    rw [Nat.add_zero, compositorref15_From.l1, if_neg (by omega)]
    have ha : alike (leftV x0 l x5 x6) x := fun m h3 h4 => by omega
    cases b
    · simp
    · rw [if_pos rfl, if_pos ⟨rfl, ha⟩]
  | succ d ih =>
    intro x b h1 h2
    rw [show k + (d + 1) + 1 = (k + d + 1) + 1 by omega, compositorref15_From.l1, if_pos (by omega), wrap_in (n := x + 1) (by omega) (by omega)]
    cases b with
    | false =>
      rw [if_neg (by simp), ih (x + 1) false (by omega) (by omega), if_neg (by simp), if_neg (by simp)]
    | true =>
      rw [if_pos rfl, show k + d + 1 = (k + d - 1) + 2 by omega, rleft_f _ x0 x1 x2 x3 l x5 x6 x7 x8 x9 x10 x11 x12 x13 x14 x15 x16 x17 x18 x19 x20 x hok (by omega) (by omega)]
      simp only [Option.bind_some]
      rw [rleft_f _ x0 x1 x2 x3 l x5 x6 x7 x8 x9 x10 x11 x12 x13 x14 x15 x16 x17 x18 x19 x20 200 hok (by omega) (by omega)]
      simp only [Option.bind_some]
      rw [show (k + d - 1) + 2 = k + d + 1 by omega, ih (x + 1) _ (by omega) (by omega)]
      by_cases e : leftV x0 l x5 x6 x = leftV x0 l x5 x6 200
      · have hb : ((leftV x0 l x5 x6 x).1 == (leftV x0 l x5 x6 200).1 && (leftV x0 l x5 x6 x).2 == (leftV x0 l x5 x6 200).2) = true := by rw [e]; simp
        rw [hb]
        by_cases a : alike (leftV x0 l x5 x6) (x + 1)
        · rw [if_pos ⟨by simp, a⟩, if_pos ⟨by simp, fun m h3 h4 => by
            by_cases z : m = x
            · rw [z]; exact e
            · exact a m (by omega) h4⟩]
        · rw [if_neg (fun h => a h.2), if_neg (fun h => a (fun m h3 h4 => h.2 m (by omega) h4))]
      · have hb : ((leftV x0 l x5 x6 x).1 == (leftV x0 l x5 x6 200).1 && (leftV x0 l x5 x6 x).2 == (leftV x0 l x5 x6 200).2) = false := by
          rw [Bool.eq_false_iff]
          intro h
          simp only [Bool.and_eq_true, beq_iff_eq] at h
          exact e (Prod.ext h.1 h.2)
        rw [hb, if_neg (by simp), if_neg (fun h => e (h.2 x (by omega) (by omega)))]
def W : Nat → Nat
  | 0 => 1
  | d + 1 => W d + d + 4
theorem rl0 (k : Nat) (x0 x1 x2 x3 : Int) (l : List S27) (x5 x6 x7 x8 x9 x10 x11 x12 x13 x14 x15 x16 x17 x18 x19 x20 : Int) (hok : okLay x0 x1 x2 x3 l x5 x6 x7 x8 x9 x10 x11 x12 x13 x14 x15 x16 x17 x18 x19 x20 = true) (hk : 2 ≤ k) (d : Nat) : ∀ n : Int, 1 ≤ n → n + (d : Int) = 200 → (1 < n → leftV x0 l x5 x6 (n - 1) ≠ leftV x0 l x5 x6 200 ∨ ¬ alike (leftV x0 l x5 x6) (n - 1)) → compositorref15_From.l0 (k + W d) n x0 x1 x2 x3 l x5 x6 x7 x8 x9 x10 x11 x12 x13 x14 x15 x16 x17 x18 x19 x20 = some (fromV (leftV x0 l x5 x6)) := by
  have nal : ∀ n : Int, n ≤ 200 → (leftV x0 l x5 x6 (n - 1) ≠ leftV x0 l x5 x6 200 ∨ ¬ alike (leftV x0 l x5 x6) (n - 1)) → ¬ alike (leftV x0 l x5 x6) (n - 1) := fun n hn h => by
    rcases h with h | h
    · exact fun a => h (a (n - 1) (by omega) (by omega))
    · exact h
  have key : ∀ n : Int, 1 ≤ n → n ≤ 200 → alike (leftV x0 l x5 x6) n → (1 < n → ¬ alike (leftV x0 l x5 x6) (n - 1)) → n = fromV (leftV x0 l x5 x6) := fun n h1 h2 a h => first_uniq ⟨h1, h2, a, fun h3 e => h h3 (fun m h4 h5 => by
    by_cases z : m = n - 1
    · rw [z]; exact e
    · exact a m (by omega) h5)⟩ (from_first _)
  induction d with
  | zero =>
    intro n h1 h2 h
    have e : n = 200 := by omega
    rw [show k + W 0 = k + 1 from rfl, compositorref15_From.l0, if_neg (by omega)]
    rw [← key n h1 (by omega) (fun m h3 h4 => by rw [show m = 200 by omega]) (fun h3 => nal n (by omega) (h h3)), e]
  | succ d ih =>
    intro n h1 h2 h
    rw [show k + W (d + 1) = (k + W d + (d + 2) + 1) + 1 by simp only [W]; omega, compositorref15_From.l0, if_pos (by omega), rl1 (k + W d) x0 x1 x2 x3 l x5 x6 x7 x8 x9 x10 x11 x12 x13 x14 x15 x16 x17 x18 x19 x20 hok (by omega) n (d + 2) n true h1 (by omega)]
    by_cases a : alike (leftV x0 l x5 x6) n
    · rw [if_pos ⟨rfl, a⟩, ← key n h1 (by omega) a (fun h3 => nal n (by omega) (h h3))]
    · rw [if_neg (fun h => a h.2), wrap_in (n := n + 1) (by omega) (by omega)]
      exact ih (n + 1) (by omega) (by omega) (fun _ => .inr (by rw [show n + 1 - 1 = n by omega]; exact a))
theorem rfrom_f (j : Nat) (x0 x1 x2 x3 : Int) (l : List S27) (x5 x6 x7 x8 x9 x10 x11 x12 x13 x14 x15 x16 x17 x18 x19 x20 : Int) : compositorref15_From.f (j + W 199 + l.length + 8) x0 x1 x2 x3 l x5 x6 x7 x8 x9 x10 x11 x12 x13 x14 x15 x16 x17 x18 x19 x20 = some (if okLay x0 x1 x2 x3 l x5 x6 x7 x8 x9 x10 x11 x12 x13 x14 x15 x16 x17 x18 x19 x20 = true then fromV (leftV x0 l x5 x6) else 0) := by
  unfold compositorref15_From.f
  rw [show j + W 199 + l.length + 8 = (j + W 199 + 2) + l.length + 6 by omega, rcheck]
  simp only [Option.bind_some]
  cases hok : okLay x0 x1 x2 x3 l x5 x6 x7 x8 x9 x10 x11 x12 x13 x14 x15 x16 x17 x18 x19 x20
  · rfl
  · simp only [if_true]
    rw [show (j + W 199 + 2) + l.length + 6 = (j + l.length + 8) + W 199 by omega]
    exact rl0 _ x0 x1 x2 x3 l x5 x6 x7 x8 x9 x10 x11 x12 x13 x14 x15 x16 x17 x18 x19 x20 hok (by omega) 199 1 (by omega) (by omega) (fun h => by omega)
end Go.Proofs.Ytogkaifcelooaaa.L
