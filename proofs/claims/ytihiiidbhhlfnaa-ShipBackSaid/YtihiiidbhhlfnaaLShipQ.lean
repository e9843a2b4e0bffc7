/- What bytes are read as: the program's and the reference's reading. -/
import Derived.Test.YtihiiidbhhlfnaaLShipW
import Derived.Test.YtihiiidbhhlfnaaGx20
import Derived.Test.YtihiiidbhhlfnaaGx9
import Derived.Test.YtihiiidbhhlfnaaGx11
namespace Go.Proofs.Ytihiiidbhhlfnaa.L
open Go.RowKit Go.Proofs.Ytihiiidbhhlfnaa.G Go.Proofs.YtihiiidbhhlfnaaW.PrintWords
set_option linter.unusedVariables false
set_option linter.unusedSimpArgs false
-- bytes taken as rows: what they are taken as is written as they are
abbrev Bytes (xs : List Int) : Prop := ∀ x ∈ xs, 0 ≤ x ∧ x < 256
theorem be_bytes (n : Int) (z : Nat) : Bytes (be n z) := by
  induction z with
  | zero => intro x hx; simp [be] at hx
  | succ z ih =>
    intro x hx
    simp only [be, List.mem_cons] at hx
    rcases hx with rfl | hx
    · omega
    · exact ih x hx
theorem val_be4 (n : Int) (h0 : 0 ≤ n) (hn : n < 4294967296) : val 0 (be n 4) = n := by
  simp [be, val]; omega
theorem val_be2 (n : Int) (h0 : 0 ≤ n) (hn : n < 65536) : val 0 (be n 2) = n := by
  simp [be, val]; omega
theorem be_val4 (a b c d : Int) (ha : 0 ≤ a ∧ a < 256) (hb : 0 ≤ b ∧ b < 256) (hc : 0 ≤ c ∧ c < 256) (hd : 0 ≤ d ∧ d < 256) : be (val 0 [a, b, c, d]) 4 = [a, b, c, d] := by
  simp [be, val]; omega
theorem be_val2 (a b : Int) (ha : 0 ≤ a ∧ a < 256) (hb : 0 ≤ b ∧ b < 256) : be (val 0 [a, b]) 2 = [a, b] := by
  simp [be, val]; omega
theorem sg_mod {n : Int} (h0 : 0 ≤ n) (h1 : n < 4294967296) : sg n % 4294967296 = n := by
  unfold sg; split <;> omega
theorem sg_back {n : Int} (h0 : -2147483648 ≤ n) (h1 : n < 2147483648) : sg (n % 4294967296) = n := by
  unfold sg; split <;> omega
def pByte : List Int → Option (Int × List Int)
  | [] => none
  | b :: l => some (b, l)
def pFix : List Int → Option (Int × List Int)
  | a :: b :: c :: d :: l => some (sg (val 0 [a, b, c, d]), l)
  | _ => none
def pTwo : List Int → Option (Int × List Int)
  | a :: b :: l => some (val 0 [a, b], l)
  | _ => none
def pItems : Nat → List Int → Option (List Item × List Int)
  | 0, xs => some ([], xs)
  | m + 1, xs => (pByte xs).bind fun c => (pFix c.2).bind fun x => (pItems m x.2).bind fun l => some (⟨c.1, x.1⟩ :: l.1, l.2)
def pRow (xs : List Int) : Option (Row × List Int) :=
  (pByte xs).bind fun a => (pByte a.2).bind fun b => (pFix b.2).bind fun c => (pFix c.2).bind fun d => (pTwo d.2).bind fun m => (pItems m.1.toNat m.2).bind fun l => some (⟨a.1 - 8, b.1, c.1, d.1, l.1⟩, l.2)
def pRows : Nat → List Int → Option (List Row × List Int)
  | 0, xs => some ([], xs)
  | n + 1, xs => (pRow xs).bind fun r => (pRows n r.2).bind fun l => some (r.1 :: l.1, l.2)
theorem pByte_some {xs : List Int} {r : Int × List Int} (h : pByte xs = some r) (hx : Bytes xs) : xs = r.1 :: r.2 ∧ (0 ≤ r.1 ∧ r.1 < 256) ∧ Bytes r.2 := by
  cases xs with
  | nil => cases h
  | cons b l =>
    obtain rfl := Option.some.inj h
    exact ⟨rfl, hx b (by simp), fun x hm => hx x (by simp [hm])⟩
theorem pFix_some {xs : List Int} {r : Int × List Int} (h : pFix xs = some r) (hx : Bytes xs) : xs = be (r.1 % 4294967296) 4 ++ r.2 ∧ wordB r.1 = true ∧ Bytes r.2 := by
  match xs, h, hx with
  | a :: b :: c :: d :: l, h, hx =>
    obtain rfl := Option.some.inj h
    have ha := hx a (by simp)
    have hb := hx b (by simp)
    have hc := hx c (by simp)
    have hd := hx d (by simp)
    have hv : 0 ≤ val 0 [a, b, c, d] ∧ val 0 [a, b, c, d] < 4294967296 := by simp [val]; omega
    refine ⟨?_, ?_, fun x hm => hx x (by simp [hm])⟩
    · show _ = be (sg (val 0 [a, b, c, d]) % 4294967296) 4 ++ l
      rw [sg_mod hv.1 hv.2, be_val4 a b c d ha hb hc hd]
      rfl
    · show wordB (sg (val 0 [a, b, c, d])) = true
      generalize val 0 [a, b, c, d] = v at hv
      have h1 : -2147483648 ≤ sg v ∧ sg v < 2147483648 := by unfold sg; split <;> omega
      simpa only [wordB, Bool.and_eq_true, decide_eq_true_eq] using h1
theorem pTwo_some {xs : List Int} {r : Int × List Int} (h : pTwo xs = some r) (hx : Bytes xs) : xs = be r.1 2 ++ r.2 ∧ (0 ≤ r.1 ∧ r.1 < 65536) ∧ Bytes r.2 := by
  match xs, h, hx with
  | a :: b :: l, h, hx =>
    obtain rfl := Option.some.inj h
    have ha := hx a (by simp)
    have hb := hx b (by simp)
    refine ⟨?_, ?_, fun x hm => hx x (by simp [hm])⟩
    · show _ = be (val 0 [a, b]) 2 ++ l
      rw [be_val2 a b ha hb]
      rfl
    · show 0 ≤ val 0 [a, b] ∧ val 0 [a, b] < 65536
      simp [val]; omega
theorem pItems_some : ∀ (m : Nat) {xs : List Int} {r : List Item × List Int} (h : pItems m xs = some r) (hx : Bytes xs), xs = r.1.flatMap bItem ++ r.2 ∧ r.1.length = m ∧ Bytes r.2 := by
  intro m
  induction m with
  | zero =>
    intro xs r h hx
    obtain rfl := Option.some.inj h
    exact ⟨rfl, rfl, hx⟩
  | succ m ih =>
    intro xs r h hx
    rw [pItems] at h
    obtain ⟨c, hc, h⟩ := Option.bind_eq_some_iff.mp h
    obtain ⟨x, hxx, h⟩ := Option.bind_eq_some_iff.mp h
    obtain ⟨l, hl, h⟩ := Option.bind_eq_some_iff.mp h
    obtain rfl := Option.some.inj h
    obtain ⟨e1, b1, y1⟩ := pByte_some hc hx
    obtain ⟨e2, b2, y2⟩ := pFix_some hxx y1
    obtain ⟨e3, b3, y3⟩ := ih hl y2
    refine ⟨?_, by simp [b3], y3⟩
    rw [e1, e2, e3]
    simp only [List.flatMap_cons, bItem]
    rw [Int.emod_eq_of_lt b1.1 b1.2]
    simp
theorem pRow_some {xs : List Int} {r : Row × List Int} (h : pRow xs = some r) (hx : Bytes xs) : xs = bRow r.1 ++ r.2 ∧ Bytes r.2 := by
  unfold pRow at h
  obtain ⟨a, ha, h⟩ := Option.bind_eq_some_iff.mp h
  obtain ⟨b, hb, h⟩ := Option.bind_eq_some_iff.mp h
  obtain ⟨c, hc, h⟩ := Option.bind_eq_some_iff.mp h
  obtain ⟨d, hd, h⟩ := Option.bind_eq_some_iff.mp h
  obtain ⟨m, hm, h⟩ := Option.bind_eq_some_iff.mp h
  obtain ⟨l, hl, h⟩ := Option.bind_eq_some_iff.mp h
  obtain rfl := Option.some.inj h
  obtain ⟨e1, b1, y1⟩ := pByte_some ha hx
  obtain ⟨e2, b2, y2⟩ := pByte_some hb y1
  obtain ⟨e3, b3, y3⟩ := pFix_some hc y2
  obtain ⟨e4, b4, y4⟩ := pFix_some hd y3
  obtain ⟨e5, b5, y5⟩ := pTwo_some hm y4
  obtain ⟨e6, b6, y6⟩ := pItems_some _ hl y5
  refine ⟨?_, y6⟩
  rw [e1, e2, e3, e4, e5, e6]
  simp only [bRow]
  rw [b6, show a.1 - 8 + 8 = a.1 by omega, Int.emod_eq_of_lt b1.1 b1.2, Int.emod_eq_of_lt b2.1 b2.2, show ((m.1.toNat : Nat) : Int) = m.1 by omega]
  simp
theorem pRows_some : ∀ (n : Nat) {xs : List Int} {r : List Row × List Int} (h : pRows n xs = some r) (hx : Bytes xs), xs = r.1.flatMap bRow ++ r.2 ∧ r.1.length = n ∧ Bytes r.2 := by
  intro n
  induction n with
  | zero =>
    intro xs r h hx
    obtain rfl := Option.some.inj h
    exact ⟨rfl, rfl, hx⟩
  | succ n ih =>
    intro xs r h hx
    rw [pRows] at h
    obtain ⟨x, hxx, h⟩ := Option.bind_eq_some_iff.mp h
    obtain ⟨l, hl, h⟩ := Option.bind_eq_some_iff.mp h
    obtain rfl := Option.some.inj h
    obtain ⟨e1, y1⟩ := pRow_some hxx hx
    obtain ⟨e2, b2, y2⟩ := ih hl y1
    refine ⟨?_, by simp [b2], y2⟩
    rw [e1, e2]
    simp
theorem pFix_be (n : Int) (h : wordB n = true) (ys : List Int) : pFix (be (n % 4294967296) 4 ++ ys) = some (n, ys) := by
  have h1 := word_in h
  have h2 := val_be4 (n % 4294967296) (by omega) (by omega)
  simp only [be, List.cons_append, List.nil_append, pFix] at h2 ⊢
  rw [h2, sg_back h1.1 h1.2]
theorem pTwo_be (n : Int) (h0 : 0 ≤ n) (h1 : n < 65536) (ys : List Int) : pTwo (be n 2 ++ ys) = some (n, ys) := by
  have h2 := val_be2 n h0 h1
  simp only [be, List.cons_append, List.nil_append, pTwo] at h2 ⊢
  rw [h2]
theorem pItems_be : ∀ (l : List Item) (ys : List Int), l.all itemB = true → pItems l.length (l.flatMap bItem ++ ys) = some (l, ys) := by
  intro l
  induction l with
  | nil => intro ys _; rfl
  | cons p l ih =>
    intro ys h
    simp only [List.all_cons, Bool.and_eq_true] at h
    have hp := item_in h.1
    simp only [List.length_cons, pItems, List.flatMap_cons, bItem, List.cons_append, List.append_assoc, pByte, Option.bind_some, pFix_be _ hp.2.2, ih _ h.2]
    rw [Int.emod_eq_of_lt (by omega) (by omega)]
theorem pRow_be (r : Row) (ys : List Int) (h : rowB r = true) : pRow (bRow r ++ ys) = some (r, ys) := by
  obtain ⟨h0, h1, h2, h3, h4, h5, h6, h7⟩ := row_in h
  simp only [pRow, bRow, List.cons_append, List.nil_append, List.append_assoc, pByte, Option.bind_some, pFix_be _ h4, pFix_be _ h5, pTwo_be _ (show (0 : Int) ≤ (r.f4.length : Int) by omega) (show (r.f4.length : Int) < 65536 by omega), Int.toNat_natCast, pItems_be _ _ h7]
  rw [Int.emod_eq_of_lt (by omega) (by omega), Int.emod_eq_of_lt (by omega) (by omega), show r.f0 + 8 - 8 = r.f0 by omega]
theorem pRows_be : ∀ (l : List Row) (ys : List Int), (∀ r ∈ l, rowB r = true) → pRows l.length (l.flatMap bRow ++ ys) = some (l, ys) := by
  intro l
  induction l with
  | nil => intro ys _; rfl
  | cons r l ih =>
    intro ys h
    simp only [List.length_cons, pRows, List.flatMap_cons, List.append_assoc, pRow_be r _ (h r (by simp)), Option.bind_some, ih _ (fun r hr => h r (by simp [hr]))]
/-- More bytes behind: the same is taken, and they stay. -/
theorem pByte_more {xs : List Int} {r : Int × List Int} (z : List Int) (h : pByte xs = some r) : pByte (xs ++ z) = some (r.1, r.2 ++ z) := by
  cases xs with
  | nil => cases h
  | cons b l => obtain rfl := Option.some.inj h; rfl
theorem pFix_more {xs : List Int} {r : Int × List Int} (z : List Int) (h : pFix xs = some r) : pFix (xs ++ z) = some (r.1, r.2 ++ z) := by
  match xs, h with
  | a :: b :: c :: d :: l, h => obtain rfl := Option.some.inj h; rfl
theorem pTwo_more {xs : List Int} {r : Int × List Int} (z : List Int) (h : pTwo xs = some r) : pTwo (xs ++ z) = some (r.1, r.2 ++ z) := by
  match xs, h with
  | a :: b :: l, h => obtain rfl := Option.some.inj h; rfl
theorem pItems_more (z : List Int) : ∀ (m : Nat) {xs : List Int} {r : List Item × List Int} (h : pItems m xs = some r), pItems m (xs ++ z) = some (r.1, r.2 ++ z) := by
  intro m
  induction m with
  | zero =>
    intro xs r h
    obtain rfl := Option.some.inj h
    rfl
  | succ m ih =>
    intro xs r h
    rw [pItems] at h
    obtain ⟨c, hc, h⟩ := Option.bind_eq_some_iff.mp h
    obtain ⟨x, hxx, h⟩ := Option.bind_eq_some_iff.mp h
    obtain ⟨l, hl, h⟩ := Option.bind_eq_some_iff.mp h
    obtain rfl := Option.some.inj h
    rw [pItems, pByte_more z hc]
    simp only [Option.bind_some, pFix_more z hxx, ih hl]
theorem pRow_more (z : List Int) {xs : List Int} {r : Row × List Int} (h : pRow xs = some r) : pRow (xs ++ z) = some (r.1, r.2 ++ z) := by
  unfold pRow at h
  obtain ⟨a, ha, h⟩ := Option.bind_eq_some_iff.mp h
  obtain ⟨b, hb, h⟩ := Option.bind_eq_some_iff.mp h
  obtain ⟨c, hc, h⟩ := Option.bind_eq_some_iff.mp h
  obtain ⟨d, hd, h⟩ := Option.bind_eq_some_iff.mp h
  obtain ⟨m, hm, h⟩ := Option.bind_eq_some_iff.mp h
  obtain ⟨l, hl, h⟩ := Option.bind_eq_some_iff.mp h
  obtain rfl := Option.some.inj h
  unfold pRow
  rw [pByte_more z ha]
  simp only [Option.bind_some, pByte_more z hb, pFix_more z hc, pFix_more z hd, pTwo_more z hm, pItems_more z _ hl]
theorem pRows_more (z : List Int) : ∀ (n : Nat) {xs : List Int} {r : List Row × List Int} (h : pRows n xs = some r), pRows n (xs ++ z) = some (r.1, r.2 ++ z) := by
  intro n
  induction n with
  | zero =>
    intro xs r h
    obtain rfl := Option.some.inj h
    rfl
  | succ n ih =>
    intro xs r h
    rw [pRows] at h
    obtain ⟨x, hxx, h⟩ := Option.bind_eq_some_iff.mp h
    obtain ⟨l, hl, h⟩ := Option.bind_eq_some_iff.mp h
    obtain rfl := Option.some.inj h
    rw [pRows, pRow_more z hxx]
    simp only [Option.bind_some, ih hl]
def run {α β : Type} (o : Option (α × List Int)) (f : α → List Int → Option (Option β)) : Option (Option β) :=
  match o with
  | none => some none
  | some r => f r.1 r.2
theorem byte_run {β : Type} {xs : List Int} (hx : Bytes xs) (f : Int → List Int → Option (Option β)) : ship_in_byte.P xs f = run (pByte xs) f := by
  cases xs with
  | nil => rfl
  | cons b l =>
    have := hx b (by simp)
    show f (wrap64 b) l = f b l
    rw [wrap_in (by omega) (by omega)]
theorem fix_run {β : Type} (k : Nat) {xs : List Int} (hx : Bytes xs) (f : Int → List Int → Option (Option β)) : ship_in_fix.P (k + 10) xs f = run (pFix xs) f := by
  unfold ship_in_fix.P
  match xs, hx with
  | a :: b :: c :: d :: l, hx =>
    rw [if_pos (by simp), takefix_ok k _ (by simp) (fun x h => hx x (List.mem_of_mem_take h)) (by simp)]
    rfl
  | [], _ => rfl
  | [_], _ => rfl
  | [_, _], _ => rfl
  | [_, _, _], _ => rfl
theorem two_run {β : Type} (k : Nat) {xs : List Int} (hx : Bytes xs) (f : Int → List Int → Option (Option β)) : ship_in_two.P (k + 10) xs f = run (pTwo xs) f := by
  unfold ship_in_two.P
  match xs, hx with
  | a :: b :: l, hx =>
    rw [if_pos (by simp), show (2 : Int) = ((2 : Nat) : Int) from rfl, take_ok k _ 2 (by omega) (by omega) (by simp) (fun x h => hx x (List.mem_of_mem_take h)) (by simp)]
    rfl
  | [], _ => rfl
  | [_], _ => rfl
theorem items_run {β : Type} (k : Nat) (f : List Item → List Int → Option (Option β)) : ∀ (m : Nat) (acc : List Item) (xs : List Int), Bytes xs → acc.length + m < 1000000000 →
    ship_in_row.items (k + 10) m acc xs f = run (pItems m xs) (fun l r => f (acc ++ l) r) := by
  intro m
  induction m with
  | zero => intro acc xs _ _; simp [ship_in_row.items, pItems, run]
  | succ m ih =>
    intro acc xs hx hm
    rw [ship_in_row.items, byte_run hx, pItems]
    cases h1 : pByte xs with
    | none => rfl
    | some c =>
      have y1 := (pByte_some h1 hx).2.2
      simp only [run, Option.bind_some]
      rw [fix_run k y1]
      cases h2 : pFix c.2 with
      | none => rfl
      | some x =>
        have y2 := (pFix_some h2 y1).2.2
        simp only [run, Option.bind_some]
        rw [if_pos (by omega), ih _ _ y2 (by simp; omega)]
        cases h3 : pItems m x.2 with
        | none => rfl
        | some l => simp [run]
theorem row_run {β : Type} (k : Nat) {xs : List Int} (hx : Bytes xs) (f : Row → List Int → Option (Option β)) : ship_in_row.P (k + 10) xs f = run (pRow xs) f := by
  unfold ship_in_row.P pRow
  rw [byte_run hx]
  cases h1 : pByte xs with
  | none => rfl
  | some a =>
    obtain ⟨-, b1, y1⟩ := pByte_some h1 hx
    simp only [run, Option.bind_some]
    rw [byte_run y1]
    cases h2 : pByte a.2 with
    | none => rfl
    | some b =>
      obtain ⟨-, b2, y2⟩ := pByte_some h2 y1
      simp only [run, Option.bind_some]
      rw [fix_run k y2]
      cases h3 : pFix b.2 with
      | none => rfl
      | some c =>
        obtain ⟨-, -, y3⟩ := pFix_some h3 y2
        simp only [run, Option.bind_some]
        rw [fix_run k y3]
        cases h4 : pFix c.2 with
        | none => rfl
        | some d =>
          obtain ⟨-, -, y4⟩ := pFix_some h4 y3
          simp only [run, Option.bind_some]
          rw [two_run k y4]
          cases h5 : pTwo d.2 with
          | none => rfl
          | some m =>
            obtain ⟨-, b5, y5⟩ := pTwo_some h5 y4
            simp only [run, Option.bind_some]
            rw [if_pos (by omega), items_run k _ _ _ _ y5 (by simp; omega)]
            rw [wrap_in (by omega) (by omega)]
            cases h6 : pItems m.1.toNat m.2 with
            | none => rfl
            | some l => simp [run]
theorem rows_run {β : Type} (k : Nat) (f : List Row → List Int → Option (Option β)) : ∀ (m : Nat) (acc : List Row) (xs : List Int), Bytes xs → acc.length + m < 1000000000 →
    ship_Read.rows (k + 10) m acc xs f = run (pRows m xs) (fun l r => f (acc ++ l) r) := by
  intro m
  induction m with
  | zero => intro acc xs _ _; simp [ship_Read.rows, pRows, run]
  | succ m ih =>
    intro acc xs hx hm
    rw [ship_Read.rows, row_run k hx, pRows]
    cases h1 : pRow xs with
    | none => rfl
    | some c =>
      have y1 := (pRow_some h1 hx).2
      simp only [run, Option.bind_some]
      rw [if_pos (by omega), ih _ _ y1 (by simp; omega)]
      cases h3 : pRows m c.2 with
      | none => rfl
      | some l => simp [run]
def parse (xs : List Int) : Option (List Row × List Int) := (pByte xs).bind fun n => pRows n.1.toNat n.2
theorem parse_run (k : Nat) {xs : List Int} (hx : Bytes xs) : ship_Read.P (k + 10) xs = some (parse xs) := by
  unfold ship_Read.P parse
  rw [byte_run hx]
  cases h1 : pByte xs with
  | none => rfl
  | some n =>
    obtain ⟨-, b1, y1⟩ := pByte_some h1 hx
    simp only [run, Option.bind_some]
    rw [if_pos (by omega), rows_run k _ _ _ _ y1 (by simp; omega)]
    cases h3 : pRows n.1.toNat n.2 with
    | none => rfl
    | some l => simp [run]
theorem bytes_drop {b : List Int} (h : Bytes b) (n : Nat) : Bytes (b.drop n) := fun x hx => h x (List.mem_of_mem_drop hx)
theorem bytes_take {b : List Int} (h : Bytes b) (n : Nat) : Bytes (b.take n) := fun x hx => h x (List.mem_of_mem_take hx)
theorem has_f (b : List Int) (hb : Bytes b) : bytes_HasPrefix.f b [67, 79] = some (decide (b.take 2 = [67, 79])) := by
  unfold bytes_HasPrefix.f bytes_Equal.f
  simp only [List.length_cons, List.length_nil, Nat.zero_add, Nat.reduceAdd]
  by_cases h : 2 ≤ b.length
  · rw [if_pos h]
    congr 1
    rw [Bool.eq_iff_iff, beq_iff_eq, decide_eq_true_eq]
    exact str_inj (bytes_take hb 2) (by intro x hx; simp at hx; omega)
  · rw [if_neg h, decide_eq_false]
    intro h2
    have := congrArg List.length h2
    simp at this
    omega
def read (b : List Int) : List Row × Int :=
  if b.take 2 = [67, 79] then
    match parse (b.drop 2) with
    | some (l, []) => if okB l = true then (l, 0) else ([], 230)
    | _ => ([], 230)
  else ([], 230)
theorem read_f (b : List Int) (hb : Bytes b) : Ev (fun k => ship_Read.f k b) (read b) := by
  refine ⟨10, fun k hk => ?_⟩
  obtain ⟨m, rfl⟩ : ∃ m, k = m + 10 := ⟨k - 10, by omega⟩
  unfold ship_Read.f read
  rw [has_f b hb]
  simp only [Option.bind_some]
  by_cases h : b.take 2 = [67, 79]
  · simp only [if_pos h, decide_eq_true h, if_true]
    rw [parse_run m (bytes_drop hb 2)]
    simp only [Option.bind_some]
    cases hp : parse (b.drop 2) with
    | none => rfl
    | some r =>
      obtain ⟨l, xs⟩ := r
      cases xs with
      | nil =>
        simp only [ship_Read.last, if_true, List.length_nil, check_f, Option.bind_some]
        cases okB l <;> rfl
      | cons x xs => simp [ship_Read.last]
  · simp only [if_neg h, decide_eq_false h, Bool.false_eq_true, if_false]
    rw [parse_run m hb]
    simp only [Option.bind_some]
    cases parse b with
    | none => rfl
    | some r => simp [ship_Read.last]
theorem parse_some {xs : List Int} {l : List Row} {r : List Int} (h : parse xs = some (l, r)) (hx : Bytes xs) : xs = ((l.length : Int) % 256 :: l.flatMap bRow) ++ r ∧ l.length < 256 := by
  unfold parse at h
  obtain ⟨n, hn, h⟩ := Option.bind_eq_some_iff.mp h
  obtain ⟨e1, b1, y1⟩ := pByte_some hn hx
  obtain ⟨e2, b2, y2⟩ := pRows_some _ h y1
  simp only at e2 b2
  refine ⟨?_, by omega⟩
  rw [e1, e2, b2, show ((n.1.toNat : Nat) : Int) % 256 = n.1 by omega]
  rfl
theorem parse_more (z : List Int) {xs : List Int} {l : List Row} {r : List Int} (h : parse xs = some (l, r)) : parse (xs ++ z) = some (l, r ++ z) := by
  unfold parse at h ⊢
  obtain ⟨n, hn, h⟩ := Option.bind_eq_some_iff.mp h
  rw [pByte_more z hn]
  simp only [Option.bind_some, pRows_more z _ h]
theorem parse_be {l : List Row} (h : okB l = true) (z : List Int) : parse ((bRows l).drop 2 ++ z) = some (l, z) := by
  have h' := okB_in h
  show pRows ((l.length : Int) % 256).toNat (l.flatMap bRow ++ z) = _
  rw [show ((l.length : Int) % 256).toNat = l.length by omega]
  exact pRows_be l z h'.2
theorem read_be {l : List Row} (h : okB l = true) : read (bRows l) = (l, 0) := by
  have := parse_be h []
  rw [List.append_nil] at this
  unfold read
  rw [if_pos (show (bRows l).take 2 = [67, 79] from rfl), this]
  simp only [h, if_true]
theorem read_cases (b : List Int) (hb : Bytes b) : (∃ l, read b = (l, 0) ∧ okB l = true ∧ b = bRows l) ∨ (read b = ([], 230) ∧ ∀ l, okB l = true → b ≠ bRows l) := by
  by_cases hx : ∃ l, okB l = true ∧ b = bRows l
  · obtain ⟨l, h1, h2⟩ := hx
    exact .inl ⟨l, by rw [h2, read_be h1], h1, h2⟩
  refine .inr ⟨?_, fun l h1 h2 => hx ⟨l, h1, h2⟩⟩
  unfold read
  by_cases h : b.take 2 = [67, 79]
  · rw [if_pos h]
    cases hp : parse (b.drop 2) with
    | none => rfl
    | some r =>
      obtain ⟨l, xs⟩ := r
      cases xs with
      | cons x xs => rfl
      | nil =>
        show (if okB l = true then (l, (0 : Int)) else ([], 230)) = _
        by_cases ho : okB l = true
        · exfalso
          apply hx
          refine ⟨l, ho, ?_⟩
          have h1 := (parse_some hp (bytes_drop hb 2)).1
          rw [← List.take_append_drop 2 b, h, h1]
          simp [bRows]
        · rw [if_neg ho]
  · rw [if_neg h]
theorem bytes_app {a b : List Int} (ha : Bytes a) (hb : Bytes b) : Bytes (a ++ b) := fun x hx => by
  rcases List.mem_append.1 hx with h | h
  · exact ha x h
  · exact hb x h
theorem bytes_flat {α : Type} (f : α → List Int) (h : ∀ a, Bytes (f a)) (l : List α) : Bytes (l.flatMap f) := fun x hx => by
  obtain ⟨a, -, hx⟩ := List.mem_flatMap.1 hx
  exact h a x hx
theorem bItem_bytes (p : Item) : Bytes (bItem p) := by
  intro x hx
  simp only [bItem, List.mem_cons] at hx
  rcases hx with rfl | hx
  · omega
  · exact be_bytes _ _ x hx
theorem bRow_bytes (r : Row) : Bytes (bRow r) := by
  unfold bRow
  refine bytes_app ?_ (bytes_app (be_bytes _ _) (bytes_app (be_bytes _ _) (bytes_app (be_bytes _ _) (bytes_flat _ bItem_bytes _))))
  intro x hx
  simp at hx
  omega
theorem bRows_bytes (l : List Row) : Bytes (bRows l) := by
  unfold bRows
  refine bytes_app ?_ (bytes_flat _ bRow_bytes _)
  intro x hx
  simp at hx
  omega
-- the reference's reading, by places
theorem pFix_len {ys : List Int} (h : 4 ≤ ys.length) : pFix ys = some (sg (val 0 (ys.take 4)), ys.drop 4) := by
  match ys, h with
  | a :: b :: c :: d :: l, _ => rfl
theorem pFix_at (b : List Int) (t : Nat) (h : t + 4 ≤ b.length) : pFix (b.drop t) = some (sg (val 0 ((b.drop t).take 4)), b.drop (t + 4)) := by
  rw [pFix_len (by simp; omega), List.drop_drop]
theorem pByte_at (b : List Int) (t : Nat) (h : t < b.length) : pByte (b.drop t) = some (b[t], b.drop (t + 1)) := by
  rw [drop_at b t h]
  rfl
theorem pTwo_at (b : List Int) (t : Nat) (h : t + 1 < b.length) : pTwo (b.drop t) = some (256 * b[t] + b[t + 1], b.drop (t + 2)) := by
  rw [drop_at b t (by omega), drop_at b (t + 1) h]
  simp [pTwo, val]
theorem rfix_ev (b : List Int) (hb : Bytes b) (hl : b.length ≤ 5000) (t : Nat) (h : t + 4 ≤ b.length) (x : Int) (hx : x = (t : Int)) : Ev (fun k => compositorref23_fix.f k b x) (sg (val 0 ((b.drop t).take 4))) := by
  subst hx
  refine ⟨10, fun k hk => ?_⟩
  obtain ⟨m, rfl⟩ : ∃ m, k = m + 10 := ⟨k - 10, by omega⟩
  show compositorref23_fix.f (m + 10) b (t : Int) = _
  unfold compositorref23_fix.f
  have w : wrap64 ((t : Int) + 4) = ((t + 4 : Nat) : Int) := by unfold wrap64; omega
  rw [w]
  clear w
  rw [if_neg (by omega), if_pos (by omega), if_pos (by omega), if_pos (by omega), Int.toNat_natCast, Int.toNat_natCast, List.drop_take, show t + 4 - t = 4 by omega]
  rw [rtakefix_ok m _ (by simp; omega) (bytes_take (bytes_drop hb t) 4) (by simp; omega), List.take_take]
  rfl
theorem pRow_at (b : List Int) (t : Nat) (h : t + 12 ≤ b.length) : pRow (b.drop t) = (pItems (256 * b[t + 10] + b[t + 11]).toNat (b.drop (t + 12))).bind fun l =>
    some (⟨b[t] - 8, b[t + 1], sg (val 0 ((b.drop (t + 2)).take 4)), sg (val 0 ((b.drop (t + 6)).take 4)), l.1⟩, l.2) := by
  unfold pRow
  rw [pByte_at b t (by omega)]
  simp only [Option.bind_some]
  rw [pByte_at b (t + 1) (by omega)]
  simp only [Option.bind_some]
  rw [pFix_at b (t + 1 + 1) (by omega)]
  simp only [Option.bind_some]
  rw [pFix_at b (t + 1 + 1 + 4) (by omega)]
  simp only [Option.bind_some]
  rw [pTwo_at b (t + 1 + 1 + 4 + 4) (by omega)]
  simp only [Option.bind_some]
theorem pRow_short {ys : List Int} (hy : Bytes ys) (h : ys.length < 12) : pRow ys = none := by
  cases hp : pRow ys with
  | none => rfl
  | some r =>
    exfalso
    have h1 := congrArg List.length (pRow_some hp hy).1
    rw [List.length_append, bRow_len] at h1
    omega
theorem pItems_short {m : Nat} {ys : List Int} (hy : Bytes ys) (h : ys.length < 5 * m) : pItems m ys = none := by
  cases hp : pItems m ys with
  | none => rfl
  | some r =>
    exfalso
    obtain ⟨h1, h2, -⟩ := pItems_some m hp hy
    have h1 := congrArg List.length h1
    rw [List.length_append, bItems_len] at h1
    omega
theorem plus_in (t c : Nat) (h : t ≤ 6000) (hc : c ≤ 100) : wrap64 ((t : Int) + (c : Int)) = ((t + c : Nat) : Int) := by unfold wrap64; omega
theorem rd_in (b : List Int) (hb : Bytes b) (t : Nat) (h : t < b.length) : wrap64 (rd b (t : Int)) = b[t] := by
  have := hb _ (List.getElem_mem h)
  rw [rd_nat b t h, wrap_in (by omega) (by omega)]
theorem rread_l1 (b : List Int) (hb : Bytes b) (hl : b.length ≤ 5000) (l : List Row) (hll : l.length < 300) (i M : Int) (hM : M < 65536) (x0 x1 x2 x3 : Int) (r : List Row × Int) : ∀ (d j t : Nat) (acc : List Item), (j : Int) + d = M → t + 5 * d ≤ b.length → acc.length + d ≤ 100000 →
    (∀ its, pItems d (b.drop t) = some (its, b.drop (t + 5 * d)) → Ev (fun k => compositorref23_Read.l0 k b (l ++ [⟨x0, x1, x2, x3, acc ++ its⟩]) ((t + 5 * d : Nat) : Int) (wrap64 (i + 1))) r) →
    Ev (fun k => compositorref23_Read.l1 k b l (t : Int) i M (j : Int) x0 x1 x2 x3 acc) r := by
  intro d
  induction d with
  | zero =>
    intro j t acc hj ht ha hn
    refine Ev.step (fun k => compositorref23_Read.l1.eq_2 _ _ _ _ _ _ _ _ _ _ _ _) ?_
    have := hn [] rfl
    rw [List.append_nil] at this
    simp only [if_neg (show ¬ (j : Int) < M by omega), if_pos (show l.length < 2513169434916 by omega)]
    exact this
  | succ d ih =>
    intro j t acc hj ht ha hn
    have hlt : t < b.length := by omega
    have l0 : (j : Int) < M := by omega
    have l1 : (0 : Int) ≤ (t : Int) := by omega
    have l2 : (t : Int) < (b.length : Int) := by omega
    have l3 : acc.length < 8796093022208 := by omega
    have f1 := rfix_ev b hb hl (t + 1) (by omega) (wrap64 ((t : Int) + 1)) (plus_in t 1 (by omega) (by decide))
    have n1 := ih (j + 1) (t + 5) (acc ++ [⟨b[t], sg (val 0 ((b.drop (t + 1)).take 4))⟩]) (by omega) (by omega) (by simp; omega)
    have w2 := wrap_nat j (by omega)
    have w1 : wrap64 ((t : Int) + 5) = ((t + 5 : Nat) : Int) := plus_in t 5 (by omega) (by decide)
    have w3 := rd_in b hb t hlt
    refine Ev.step (fun k => compositorref23_Read.l1.eq_2 _ _ _ _ _ _ _ _ _ _ _ _) ?_
    simp only [w1, w2, w3, if_pos l0, if_pos l1, if_pos l2]
    clear w1 w2 w3
    refine Ev.bind f1 ?_
    simp only [if_pos l3]
    refine n1 ?_
    intro its hits
    have e := hn (⟨b[t], sg (val 0 ((b.drop (t + 1)).take 4))⟩ :: its) (by
      rw [pItems, pByte_at b t hlt]
      simp only [Option.bind_some]
      rw [pFix_at b (t + 1) (by omega)]
      simp only [Option.bind_some]
      rw [show t + 1 + 4 = t + 5 by omega, hits]
      simp only [Option.bind_some]
      rw [show t + 5 + 5 * d = t + 5 * (d + 1) by omega])
    rw [show t + 5 + 5 * d = t + 5 * (d + 1) by omega, List.append_assoc]
    exact e
def fin (b : List Int) (l : List Row) : List Row × Int := if okB l = true ∧ bRows l = b then (l, 0) else ([], 230)
theorem rread_fin (b : List Int) (hb : Bytes b) (l : List Row) : Ev (fun k => (compositorref23_Write.f k l).bind fun bt315 => (if bt315.2 = 0 then (if (strOfNums bt315.1).toList = (strOfNums b).toList then (some (l, 0)) else (some (([] : List Row), 230))) else (some (([] : List Row), 230)))) (fin b l) := by
  refine Ev.bind (rwrite_f l) ?_
  by_cases ho : okB l = true
  · have hw : write l = (bRows l, 0) := by unfold write; rw [if_pos ho]
    rw [hw]
    by_cases he : bRows l = b
    · have hf : fin b l = (l, 0) := if_pos ⟨ho, he⟩
      rw [hf]
      simp only [he, if_true]
      exact Ev.now _
    · have hf : fin b l = ([], 230) := if_neg (fun h => he h.2)
      rw [hf]
      simp only [if_true, if_neg (fun h => he ((str_inj (bRows_bytes l) hb).1 h))]
      exact Ev.now _
  · have hw : write l = ([], 230) := by unfold write; rw [if_neg ho]
    have hf : fin b l = ([], 230) := if_neg (fun h => ho h.1)
    rw [hf, hw]
    simp only [show ¬ (230 : Int) = 0 by decide, if_false]
    exact Ev.now _
theorem rd2 (b : List Int) (hb : Bytes b) (h2 : 2 < b.length) : wrap64 (rd b 2) = b[2] := by
  have hb2 := hb _ (List.getElem_mem h2)
  rw [show (2 : Int) = ((2 : Nat) : Int) from rfl, rd_nat b 2 h2, wrap_in (by omega) (by omega)]
theorem many_in (x y : Int) (hx : 0 ≤ x ∧ x < 256) (hy : 0 ≤ y ∧ y < 256) : wrap64 (wrap64 (256 * x) + y) = 256 * x + y := by
  rw [wrap_in (n := 256 * x) (by omega) (by omega), wrap_in (by omega) (by omega)]
theorem five_in (t : Nat) (M : Int) (ht : t < 1000000) (hM : 0 ≤ M ∧ M < 65536) : wrap64 ((t : Int) + wrap64 (5 * M)) = (t : Int) + 5 * M := by
  rw [wrap_in (n := 5 * M) (by omega) (by omega), wrap_in (by omega) (by omega)]
theorem rread_l0 (b : List Int) (hb : Bytes b) (hl : b.length ≤ 5000) (h2 : 2 < b.length) : ∀ (m i t : Nat) (l : List Row), (i : Int) + m = b[2] → l.length = i → t ≤ b.length →
    Ev (fun k => compositorref23_Read.l0 k b l (t : Int) (i : Int)) (match pRows m (b.drop t) with | none => ([], 230) | some r => fin b (l ++ r.1)) := by
  have hb2 := hb _ (List.getElem_mem h2)
  intro m
  induction m with
  | zero =>
    intro i t l hi hll ht
    refine Ev.step (fun k => compositorref23_Read.l0.eq_2 _ _ _ _ _) ?_
    simp only [if_pos (show (2 : Int) < (b.length : Int) by omega), rd2 b hb h2, if_neg (show ¬ (i : Int) < b[2] by omega), pRows, List.append_nil]
    exact rread_fin b hb l
  | succ m ih =>
    intro i t l hi hll ht
    refine Ev.step (fun k => compositorref23_Read.l0.eq_2 _ _ _ _ _) ?_
    simp only [if_pos (show (2 : Int) < (b.length : Int) by omega), rd2 b hb h2, if_pos (show (i : Int) < b[2] by omega)]
    by_cases h12 : t + 12 ≤ b.length
    · have hx := fun (n : Nat) (h : n < b.length) => hb _ (List.getElem_mem h)
      have g0 := hx t (by omega)
      have g10 := hx (t + 10) (by omega)
      have g11 := hx (t + 11) (by omega)
      have ht5 : t ≤ 6000 := by omega
      have h1 : t + 1 < b.length := by omega
      have h10 : t + 10 < b.length := by omega
      have h11 : t + 11 < b.length := by omega
      have l0 : ¬ ((t + 12 : Nat) : Int) > (b.length : Int) := by omega
      have l1 : (0 : Int) ≤ (t : Int) := by omega
      have l2 : (t : Int) < (b.length : Int) := by omega
      have l3 : (0 : Int) ≤ ((t + 1 : Nat) : Int) := by omega
      have l4 : ((t + 1 : Nat) : Int) < (b.length : Int) := by omega
      have l5 : (0 : Int) ≤ ((t + 10 : Nat) : Int) := by omega
      have l6 : ((t + 10 : Nat) : Int) < (b.length : Int) := by omega
      have l7 : (0 : Int) ≤ ((t + 11 : Nat) : Int) := by omega
      have l8 : ((t + 11 : Nat) : Int) < (b.length : Int) := by omega
      have hM : 0 ≤ 256 * b[t + 10] + b[t + 11] ∧ 256 * b[t + 10] + b[t + 11] < 65536 := by omega
      have f1 := rfix_ev b hb hl (t + 2) (by omega) (wrap64 ((t : Int) + 2)) (plus_in t 2 ht5 (by decide))
      have f2 := rfix_ev b hb hl (t + 6) (by omega) (wrap64 ((t : Int) + 6)) (plus_in t 6 ht5 (by decide))
      have h0 : t < b.length := by omega
      have vin : wrap64 (b[t] - 8) = b[t] - 8 := wrap_in (by omega) (by omega)
      have i0 := rd_in b hb t h0
      have i1 := rd_in b hb (t + 1) h1
      have i10 := rd_in b hb (t + 10) h10
      have i11 := rd_in b hb (t + 11) h11
      have v0 : wrap64 (b[t] - 8) = b[t] - 8 := vin
      have e1 : wrap64 ((t : Int) + 1) = ((t + 1 : Nat) : Int) := plus_in t 1 ht5 (by decide)
      have e10 : wrap64 ((t : Int) + 10) = ((t + 10 : Nat) : Int) := plus_in t 10 ht5 (by decide)
      have e11 : wrap64 ((t : Int) + 11) = ((t + 11 : Nat) : Int) := plus_in t 11 ht5 (by decide)
      have e12 : wrap64 ((t : Int) + 12) = ((t + 12 : Nat) : Int) := plus_in t 12 ht5 (by decide)
      have em := many_in _ _ g10 g11
      have e5 := five_in (t + 12) (256 * b[t + 10] + b[t + 11]) (Nat.lt_of_le_of_lt (Nat.add_le_add_right ht5 12) (by decide)) hM
      simp only [e12, if_neg l0, if_pos l1, if_pos l2, e1, if_pos l3, if_pos l4]
      refine Ev.bind f1 ?_
      refine Ev.bind f2 ?_
      simp only [e10, e11, if_pos l5, if_pos l6, if_pos l7, if_pos l8, i0, i1, i10, i11, v0, em, e5]
      clear f1 f2 e1 e10 e11 e12 em e5 i0 i1 i10 i11 v0 vin
      rw [pRows, pRow_at b t h12]
      generalize hMe : 256 * b[t + 10] + b[t + 11] = M at hM ⊢
      obtain ⟨d, rfl⟩ : ∃ d : Nat, M = (d : Int) := ⟨M.toNat, by omega⟩
      rw [Int.toNat_natCast]
      by_cases h5 : t + 12 + 5 * d ≤ b.length
      · simp only [if_neg (show ¬ ((t + 12 : Nat) : Int) + 5 * (d : Int) > (b.length : Int) by omega)]
        refine rread_l1 b hb hl l (by omega) _ _ hM.2 _ _ _ _ _ d 0 (t + 12) [] (by omega) (by omega) (by simp; omega) ?_
        intro its hits
        have e := ih (i + 1) (t + 12 + 5 * d) (l ++ [⟨b[t] - 8, b[t + 1], sg (val 0 ((b.drop (t + 2)).take 4)), sg (val 0 ((b.drop (t + 6)).take 4)), its⟩]) (by omega) (by simp; omega) (by omega)
        rw [hits]
        simp only [Option.bind_some, List.nil_append, wrap_nat i (by omega)]
        refine Ev.eq e ?_
        cases pRows m (b.drop (t + 12 + 5 * d)) with
        | none => rfl
        | some r => simp
      · rw [pItems_short (bytes_drop hb _) (by simp; omega)]
        simp only [if_pos (show ((t + 12 : Nat) : Int) + 5 * (d : Int) > (b.length : Int) by omega)]
        exact Ev.now _
    · rw [pRows, pRow_short (bytes_drop hb t) (by simp; omega)]
      have e12 : wrap64 ((t : Int) + 12) = ((t + 12 : Nat) : Int) := plus_in t 12 (by omega) (by decide)
      simp only [e12, if_pos (show ((t + 12 : Nat) : Int) > (b.length : Int) by omega)]
      exact Ev.now _
theorem rread_f (b : List Int) (hb : Bytes b) (hl : b.length ≤ 5000) : Ev (fun k => compositorref23_Read.f k b) (read b) := by
  unfold compositorref23_Read.f
  by_cases h3 : b.length < 3
  · simp only [if_pos (show (b.length : Int) < 3 by omega)]
    rcases read_cases b hb with ⟨l, h1, h2, h4⟩ | ⟨h1, h2⟩
    · exfalso
      have := congrArg List.length h4
      simp [bRows] at this
      omega
    · rw [h1]
      exact Ev.now _
  · simp only [if_neg (show ¬ (b.length : Int) < 3 by omega)]
    have hb2 := hb _ (List.getElem_mem (show 2 < b.length by omega))
    refine Ev.eq (rread_l0 b hb hl (by omega) b[2].toNat 0 3 [] (by omega) rfl (by omega)) ?_
    have hp : parse (b.drop 2) = pRows b[2].toNat (b.drop 3) := by
      unfold parse
      rw [pByte_at b 2 (by omega)]
      rfl
    rcases read_cases b hb with ⟨l, h1, h2, h4⟩ | ⟨h1, h2⟩
    · have h5 := parse_be h2 []
      rw [← h4, List.append_nil, hp] at h5
      rw [h5, h1]
      show fin b ([] ++ l) = _
      rw [List.nil_append, fin, if_pos ⟨h2, h4.symm⟩]
    · rw [h1]
      cases pRows b[2].toNat (b.drop 3) with
      | none => rfl
      | some r =>
        show fin b _ = _
        rw [fin, if_neg (fun h => h2 _ h.1 h.2.symm)]
-- rows are alike
theorem same_items (a b c d : Int) (l : List Item) (hl : l.length < 1000000) : ∀ (m j : Nat), l.length - j = m → j ≤ l.length → Ev (fun k => compositorref19_Same.l0 k (j : Int) a b c d l a b c d l) true := by
  intro m
  induction m with
  | zero =>
    intro j hd hj
    refine Ev.step (fun k => compositorref19_Same.l0.eq_2 _ _ _ _ _ _ _ _ _ _ _ _) ?_
    have hge : ¬ (j : Int) < (l.length : Int) := by omega
    simp only [if_neg hge]
    exact Ev.now _
  | succ m ih =>
    intro j hd hj
    have hlt : j < l.length := by omega
    refine Ev.step (fun k => compositorref19_Same.l0.eq_2 _ _ _ _ _ _ _ _ _ _ _ _) ?_
    simp only [if_pos (show (0 : Int) ≤ (j : Int) by omega), if_pos (show (j : Int) < (l.length : Int) by omega), BEq.rfl, Bool.not_true, Bool.or_self, Bool.false_eq_true, if_false, wrap_nat j (by omega)]
    exact ih (j + 1) (by omega) (by omega)
theorem same_row (r : Row) (hl : r.f4.length < 1000000) : Ev (fun k => compositorref19_Same.f k r.f0 r.f1 r.f2 r.f3 r.f4 r.f0 r.f1 r.f2 r.f3 r.f4) true := by
  unfold compositorref19_Same.f
  simp only [if_true, bne_self_eq_false]
  refine Ev.step (fun k => compositorref19_Same.j0.eq_2 _ _ _ _ _ _ _ _ _ _ _ _) ?_
  simp only [Bool.false_eq_true, if_false]
  exact same_items _ _ _ _ _ hl _ 0 rfl (by omega)
theorem all_l0 (l : List Row) (hl : l.length < 1000000) (h : ∀ r ∈ l, r.f4.length < 1000000) : ∀ (m i : Nat), l.length - i = m → i ≤ l.length → Ev (fun k => compositorref19_All.l0 k l l (i : Int)) true := by
  intro m
  induction m with
  | zero =>
    intro i hd hi
    refine Ev.step (fun k => compositorref19_All.l0.eq_2 _ _ _ _) ?_
    have hge : ¬ (i : Int) < (l.length : Int) := by omega
    simp only [if_neg hge]
    exact Ev.now _
  | succ m ih =>
    intro i hd hi
    have hlt : i < l.length := by omega
    refine Ev.step (fun k => compositorref19_All.l0.eq_2 _ _ _ _) ?_
    simp only [if_pos (show (0 : Int) ≤ (i : Int) by omega), if_pos (show (i : Int) < (l.length : Int) by omega), rd_row l i hlt, wrap_nat i (by omega)]
    refine Ev.bind (same_row _ (h _ (List.getElem_mem hlt))) ?_
    simp only [if_true]
    exact ih (i + 1) (by omega) (by omega)
theorem all_f (l : List Row) (hl : l.length < 1000000) (h : ∀ r ∈ l, r.f4.length < 1000000) : Ev (fun k => compositorref19_All.f k l l) true := by
  unfold compositorref19_All.f
  simp only [if_true]
  exact all_l0 l hl h _ 0 rfl (by omega)
theorem read_few (b : List Int) (hb : Bytes b) : (read b).1.length < 1000000 ∧ ∀ r ∈ (read b).1, r.f4.length < 1000000 := by
  rcases read_cases b hb with ⟨l, h1, h2, -⟩ | ⟨h1, -⟩
  · rw [h1]
    have := okB_in h2
    exact ⟨by simp only; omega, fun r hr => by have := (row_in (this.2 r hr)).2.2.2.2.2.2.1; omega⟩
  · rw [h1]
    exact ⟨by simp, fun r hr => by simp at hr⟩
end Go.Proofs.Ytihiiidbhhlfnaa.L
