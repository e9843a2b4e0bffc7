/- Bytes taken as rows: plain; what they are taken as is written as they are. -/
import Derived.Test.YtihiiidbhhlfnaaLShipW
namespace Go.Proofs.Ytihiiidbhhlfnaa.L
open Go.RowKit Go.Proofs.Ytihiiidbhhlfnaa.G Go.Proofs.YtihiiidbhhlfnaaW.PrintWords
set_option linter.unusedVariables false
set_option linter.unusedSimpArgs false
abbrev Bytes (xs : List Int) : Prop := ∀ x ∈ xs, 0 ≤ x ∧ x < 256
theorem be_bytes (n : Int) (z : Nat) : Bytes (be n z) := by
  induction z with
  | zero => intro x hx; simp [be] at hx
  | succ z ih =>
    intro x hx
    simp only [be, List.mem_cons] at hx
    rcases hx with rfl | hx
    · omega
    · exact ih x hx
theorem val_be4 (n : Int) (h0 : 0 ≤ n) (hn : n < 4294967296) : val 0 (be n 4) = n := by
  simp [be, val]; omega
theorem val_be2 (n : Int) (h0 : 0 ≤ n) (hn : n < 65536) : val 0 (be n 2) = n := by
  simp [be, val]; omega
theorem be_val4 (a b c d : Int) (ha : 0 ≤ a ∧ a < 256) (hb : 0 ≤ b ∧ b < 256) (hc : 0 ≤ c ∧ c < 256) (hd : 0 ≤ d ∧ d < 256) : be (val 0 [a, b, c, d]) 4 = [a, b, c, d] := by
  simp [be, val]; omega
theorem be_val2 (a b : Int) (ha : 0 ≤ a ∧ a < 256) (hb : 0 ≤ b ∧ b < 256) : be (val 0 [a, b]) 2 = [a, b] := by
  simp [be, val]; omega
theorem sg_mod {n : Int} (h0 : 0 ≤ n) (h1 : n < 4294967296) : sg n % 4294967296 = n := by
  unfold sg; split <;> omega
theorem sg_back {n : Int} (h0 : -2147483648 ≤ n) (h1 : n < 2147483648) : sg (n % 4294967296) = n := by
  unfold sg; split <;> omega
def pByte : List Int → Option (Int × List Int)
  | [] => none
  | b :: l => some (b, l)
def pFix : List Int → Option (Int × List Int)
  | a :: b :: c :: d :: l => some (sg (val 0 [a, b, c, d]), l)
  | _ => none
def pTwo : List Int → Option (Int × List Int)
  | a :: b :: l => some (val 0 [a, b], l)
  | _ => none
def pItems : Nat → List Int → Option (List Item × List Int)
  | 0, xs => some ([], xs)
  | m + 1, xs => (pByte xs).bind fun c => (pFix c.2).bind fun x => (pItems m x.2).bind fun l => some (⟨c.1, x.1⟩ :: l.1, l.2)
def pRow (xs : List Int) : Option (Row × List Int) :=
  (pByte xs).bind fun a => (pByte a.2).bind fun b => (pFix b.2).bind fun c => (pFix c.2).bind fun d => (pTwo d.2).bind fun m => (pItems m.1.toNat m.2).bind fun l => some (⟨a.1 - 8, b.1, c.1, d.1, l.1⟩, l.2)
def pRows : Nat → List Int → Option (List Row × List Int)
  | 0, xs => some ([], xs)
  | n + 1, xs => (pRow xs).bind fun r => (pRows n r.2).bind fun l => some (r.1 :: l.1, l.2)
theorem pByte_some {xs : List Int} {r : Int × List Int} (h : pByte xs = some r) (hx : Bytes xs) : xs = r.1 :: r.2 ∧ (0 ≤ r.1 ∧ r.1 < 256) ∧ Bytes r.2 := by
  cases xs with
  | nil => cases h
  | cons b l =>
    obtain rfl := Option.some.inj h
    exact ⟨rfl, hx b (by simp), fun x hm => hx x (by simp [hm])⟩
theorem pFix_some {xs : List Int} {r : Int × List Int} (h : pFix xs = some r) (hx : Bytes xs) : xs = be (r.1 % 4294967296) 4 ++ r.2 ∧ wordB r.1 = true ∧ Bytes r.2 := by
  match xs, h, hx with
  | a :: b :: c :: d :: l, h, hx =>
    obtain rfl := Option.some.inj h
    have ha := hx a (by simp)
    have hb := hx b (by simp)
    have hc := hx c (by simp)
    have hd := hx d (by simp)
    have hv : 0 ≤ val 0 [a, b, c, d] ∧ val 0 [a, b, c, d] < 4294967296 := by simp [val]; omega
    refine ⟨?_, ?_, fun x hm => hx x (by simp [hm])⟩
    · show _ = be (sg (val 0 [a, b, c, d]) % 4294967296) 4 ++ l
      rw [sg_mod hv.1 hv.2, be_val4 a b c d ha hb hc hd]
      rfl
    · show wordB (sg (val 0 [a, b, c, d])) = true
      generalize val 0 [a, b, c, d] = v at hv
      have h1 : -2147483648 ≤ sg v ∧ sg v < 2147483648 := by unfold sg; split <;> omega
      simpa only [wordB, Bool.and_eq_true, decide_eq_true_eq] using h1
theorem pTwo_some {xs : List Int} {r : Int × List Int} (h : pTwo xs = some r) (hx : Bytes xs) : xs = be r.1 2 ++ r.2 ∧ (0 ≤ r.1 ∧ r.1 < 65536) ∧ Bytes r.2 := by
  match xs, h, hx with
  | a :: b :: l, h, hx =>
    obtain rfl := Option.some.inj h
    have ha := hx a (by simp)
    have hb := hx b (by simp)
    refine ⟨?_, ?_, fun x hm => hx x (by simp [hm])⟩
    · show _ = be (val 0 [a, b]) 2 ++ l
      rw [be_val2 a b ha hb]
      rfl
    · show 0 ≤ val 0 [a, b] ∧ val 0 [a, b] < 65536
      simp [val]; omega
theorem pItems_some : ∀ (m : Nat) {xs : List Int} {r : List Item × List Int} (h : pItems m xs = some r) (hx : Bytes xs), xs = r.1.flatMap bItem ++ r.2 ∧ r.1.length = m ∧ Bytes r.2 := by
  intro m
  induction m with
  | zero =>
    intro xs r h hx
    obtain rfl := Option.some.inj h
    exact ⟨rfl, rfl, hx⟩
  | succ m ih =>
    intro xs r h hx
    rw [pItems] at h
    obtain ⟨c, hc, h⟩ := Option.bind_eq_some_iff.mp h
    obtain ⟨x, hxx, h⟩ := Option.bind_eq_some_iff.mp h
    obtain ⟨l, hl, h⟩ := Option.bind_eq_some_iff.mp h
    obtain rfl := Option.some.inj h
    obtain ⟨e1, b1, y1⟩ := pByte_some hc hx
    obtain ⟨e2, b2, y2⟩ := pFix_some hxx y1
    obtain ⟨e3, b3, y3⟩ := ih hl y2
    refine ⟨?_, by simp [b3], y3⟩
    rw [e1, e2, e3]
    simp only [List.flatMap_cons, bItem]
    rw [Int.emod_eq_of_lt b1.1 b1.2]
    simp
theorem pRow_some {xs : List Int} {r : Row × List Int} (h : pRow xs = some r) (hx : Bytes xs) : xs = bRow r.1 ++ r.2 ∧ Bytes r.2 := by
  unfold pRow at h
  obtain ⟨a, ha, h⟩ := Option.bind_eq_some_iff.mp h
  obtain ⟨b, hb, h⟩ := Option.bind_eq_some_iff.mp h
  obtain ⟨c, hc, h⟩ := Option.bind_eq_some_iff.mp h
  obtain ⟨d, hd, h⟩ := Option.bind_eq_some_iff.mp h
  obtain ⟨m, hm, h⟩ := Option.bind_eq_some_iff.mp h
  obtain ⟨l, hl, h⟩ := Option.bind_eq_some_iff.mp h
  obtain rfl := Option.some.inj h
  obtain ⟨e1, b1, y1⟩ := pByte_some ha hx
  obtain ⟨e2, b2, y2⟩ := pByte_some hb y1
  obtain ⟨e3, b3, y3⟩ := pFix_some hc y2
  obtain ⟨e4, b4, y4⟩ := pFix_some hd y3
  obtain ⟨e5, b5, y5⟩ := pTwo_some hm y4
  obtain ⟨e6, b6, y6⟩ := pItems_some _ hl y5
  refine ⟨?_, y6⟩
  rw [e1, e2, e3, e4, e5, e6]
  simp only [bRow]
  rw [b6, show a.1 - 8 + 8 = a.1 by omega, Int.emod_eq_of_lt b1.1 b1.2, Int.emod_eq_of_lt b2.1 b2.2, show ((m.1.toNat : Nat) : Int) = m.1 by omega]
  simp
theorem pRows_some : ∀ (n : Nat) {xs : List Int} {r : List Row × List Int} (h : pRows n xs = some r) (hx : Bytes xs), xs = r.1.flatMap bRow ++ r.2 ∧ r.1.length = n ∧ Bytes r.2 := by
  intro n
  induction n with
  | zero =>
    intro xs r h hx
    obtain rfl := Option.some.inj h
    exact ⟨rfl, rfl, hx⟩
  | succ n ih =>
    intro xs r h hx
    rw [pRows] at h
    obtain ⟨x, hxx, h⟩ := Option.bind_eq_some_iff.mp h
    obtain ⟨l, hl, h⟩ := Option.bind_eq_some_iff.mp h
    obtain rfl := Option.some.inj h
    obtain ⟨e1, y1⟩ := pRow_some hxx hx
    obtain ⟨e2, b2, y2⟩ := ih hl y1
    refine ⟨?_, by simp [b2], y2⟩
    rw [e1, e2]
    simp
theorem pFix_be (n : Int) (h : wordB n = true) (ys : List Int) : pFix (be (n % 4294967296) 4 ++ ys) = some (n, ys) := by
  have h1 := word_in h
  have h2 := val_be4 (n % 4294967296) (by omega) (by omega)
  simp only [be, List.cons_append, List.nil_append, pFix] at h2 ⊢
  rw [h2, sg_back h1.1 h1.2]
theorem pTwo_be (n : Int) (h0 : 0 ≤ n) (h1 : n < 65536) (ys : List Int) : pTwo (be n 2 ++ ys) = some (n, ys) := by
  have h2 := val_be2 n h0 h1
  simp only [be, List.cons_append, List.nil_append, pTwo] at h2 ⊢
  rw [h2]
theorem pItems_be : ∀ (l : List Item) (ys : List Int), l.all itemB = true → pItems l.length (l.flatMap bItem ++ ys) = some (l, ys) := by
  intro l
  induction l with
  | nil => intro ys _; rfl
  | cons p l ih =>
    intro ys h
    simp only [List.all_cons, Bool.and_eq_true] at h
    have hp := item_in h.1
    simp only [List.length_cons, pItems, List.flatMap_cons, bItem, List.cons_append, List.append_assoc, pByte, Option.bind_some, pFix_be _ hp.2.2, ih _ h.2]
    rw [Int.emod_eq_of_lt (by omega) (by omega)]
theorem pRow_be (r : Row) (ys : List Int) (h : rowB r = true) : pRow (bRow r ++ ys) = some (r, ys) := by
  obtain ⟨h0, h1, h2, h3, h4, h5, h6, h7⟩ := row_in h
  simp only [pRow, bRow, List.cons_append, List.nil_append, List.append_assoc, pByte, Option.bind_some, pFix_be _ h4, pFix_be _ h5, pTwo_be _ (show (0 : Int) ≤ (r.f4.length : Int) by omega) (show (r.f4.length : Int) < 65536 by omega), Int.toNat_natCast, pItems_be _ _ h7]
  rw [Int.emod_eq_of_lt (by omega) (by omega), Int.emod_eq_of_lt (by omega) (by omega), show r.f0 + 8 - 8 = r.f0 by omega]
theorem pRows_be : ∀ (l : List Row) (ys : List Int), (∀ r ∈ l, rowB r = true) → pRows l.length (l.flatMap bRow ++ ys) = some (l, ys) := by
  intro l
  induction l with
  | nil => intro ys _; rfl
  | cons r l ih =>
    intro ys h
    simp only [List.length_cons, pRows, List.flatMap_cons, List.append_assoc, pRow_be r _ (h r (by simp)), Option.bind_some, ih _ (fun r hr => h r (by simp [hr]))]
/-- More bytes behind: the same is taken, and they stay. -/
theorem pByte_more {xs : List Int} {r : Int × List Int} (z : List Int) (h : pByte xs = some r) : pByte (xs ++ z) = some (r.1, r.2 ++ z) := by
  cases xs with
  | nil => cases h
  | cons b l => obtain rfl := Option.some.inj h; rfl
theorem pFix_more {xs : List Int} {r : Int × List Int} (z : List Int) (h : pFix xs = some r) : pFix (xs ++ z) = some (r.1, r.2 ++ z) := by
  match xs, h with
  | a :: b :: c :: d :: l, h => obtain rfl := Option.some.inj h; rfl
theorem pTwo_more {xs : List Int} {r : Int × List Int} (z : List Int) (h : pTwo xs = some r) : pTwo (xs ++ z) = some (r.1, r.2 ++ z) := by
  match xs, h with
  | a :: b :: l, h => obtain rfl := Option.some.inj h; rfl
theorem pItems_more (z : List Int) : ∀ (m : Nat) {xs : List Int} {r : List Item × List Int} (h : pItems m xs = some r), pItems m (xs ++ z) = some (r.1, r.2 ++ z) := by
  intro m
  induction m with
  | zero =>
    intro xs r h
    obtain rfl := Option.some.inj h
    rfl
  | succ m ih =>
    intro xs r h
    rw [pItems] at h
    obtain ⟨c, hc, h⟩ := Option.bind_eq_some_iff.mp h
    obtain ⟨x, hxx, h⟩ := Option.bind_eq_some_iff.mp h
    obtain ⟨l, hl, h⟩ := Option.bind_eq_some_iff.mp h
    obtain rfl := Option.some.inj h
    rw [pItems, pByte_more z hc]
    simp only [Option.bind_some, pFix_more z hxx, ih hl]
theorem pRow_more (z : List Int) {xs : List Int} {r : Row × List Int} (h : pRow xs = some r) : pRow (xs ++ z) = some (r.1, r.2 ++ z) := by
  unfold pRow at h
  obtain ⟨a, ha, h⟩ := Option.bind_eq_some_iff.mp h
  obtain ⟨b, hb, h⟩ := Option.bind_eq_some_iff.mp h
  obtain ⟨c, hc, h⟩ := Option.bind_eq_some_iff.mp h
  obtain ⟨d, hd, h⟩ := Option.bind_eq_some_iff.mp h
  obtain ⟨m, hm, h⟩ := Option.bind_eq_some_iff.mp h
  obtain ⟨l, hl, h⟩ := Option.bind_eq_some_iff.mp h
  obtain rfl := Option.some.inj h
  unfold pRow
  rw [pByte_more z ha]
  simp only [Option.bind_some, pByte_more z hb, pFix_more z hc, pFix_more z hd, pTwo_more z hm, pItems_more z _ hl]
theorem pRows_more (z : List Int) : ∀ (n : Nat) {xs : List Int} {r : List Row × List Int} (h : pRows n xs = some r), pRows n (xs ++ z) = some (r.1, r.2 ++ z) := by
  intro n
  induction n with
  | zero =>
    intro xs r h
    obtain rfl := Option.some.inj h
    rfl
  | succ n ih =>
    intro xs r h
    rw [pRows] at h
    obtain ⟨x, hxx, h⟩ := Option.bind_eq_some_iff.mp h
    obtain ⟨l, hl, h⟩ := Option.bind_eq_some_iff.mp h
    obtain rfl := Option.some.inj h
    rw [pRows, pRow_more z hxx]
    simp only [Option.bind_some, ih hl]
end Go.Proofs.Ytihiiidbhhlfnaa.L
