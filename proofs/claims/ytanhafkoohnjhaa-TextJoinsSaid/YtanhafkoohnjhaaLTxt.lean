/- Texts: how they fall into words, what a word's bytes are, and that the one is the other's reverse; the program's and the reference's functions tell it. -/
import Derived.Test.YtanhafkoohnjhaaGx3
import Derived.Test.YtanhafkoohnjhaaGx4
import Derived.Test.YtanhafkoohnjhaaGx10
import Derived.Test.YtanhafkoohnjhaaGx14
import Derived.Test.YtanhafkoohnjhaaGx11
import Derived.Test.YtanhafkoohnjhaaLText
namespace Go.Proofs.Ytanhafkoohnjhaa.L
open Go.RowKit Go.Proofs.Ytanhafkoohnjhaa.G Go.Proofs.YtanhafkoohnjhaaW.PrintWords
set_option linter.unusedVariables false
set_option linter.unusedSimpArgs false
def Bytes (l : List Int) : Prop := ∀ b ∈ l, 0 ≤ b ∧ b < 256
theorem bytes_of {l : List Int} (h : ∀ y ∈ l, (Lit.int .u8 y).wf = true) : Bytes l := by
  intro b hb
  have := h b hb
  have h1 : IntKind.u8.min = 0 := by decide
  have h2 : IntKind.u8.max = 255 := by decide
  simp only [Lit.wf, Bool.and_eq_true, decide_eq_true_eq, h1, h2] at this
  omega
theorem Bytes.tail {b : Int} {l : List Int} (h : Bytes (b :: l)) : Bytes l := fun x hx => h x (by simp [hx])
theorem Bytes.head {b : Int} {l : List Int} (h : Bytes (b :: l)) : 0 ≤ b ∧ b < 256 := h b (by simp)
def gapB (b : Int) : Bool := decide (b = 9) || (decide (b = 10) || (decide (b = 13) || decide (b = 32)))
theorem words1_f (b : Int) : text_words_1.f b = some (gapB b) := by
  unfold text_words_1.f gapB
  by_cases h1 : b = 9
  · simp [h1]
  · by_cases h2 : b = 10
    · simp [h2]
    · by_cases h3 : b = 13
      · simp [h3]
      · by_cases h4 : b = 32 <;> simp [h1, h2, h3, h4]
theorem rgap_f (b : Int) : compositorref13_gap.f b = some (gapB b) := by
  unfold compositorref13_gap.f gapB
  by_cases h1 : b = 9
  · simp [h1]
  · by_cases h2 : b = 10
    · simp [h2]
    · by_cases h3 : b = 13
      · simp [h3]
      · by_cases h4 : b = 32 <;> simp [h1, h2, h3, h4]
theorem gap_eq (b : Int) : text_words_2.gap b = gapB b := by
  unfold text_words_2.gap
  rw [words1_f]
  cases gapB b <;> rfl
/-- A piece's codes, and soft hyphens; none: it is no word's. -/
def parse : List Int → List Int → List Int → Option (List Int × List Int)
  | [], c, s => some (c, s)
  | [b], c, s => if b = 194 then none else some (c ++ [b], s)
  | b :: b2 :: l, c, s => if b = 194 then (if b2 = 173 then parse l c (s ++ [(c.length : Int)]) else none) else parse (b2 :: l) (c ++ [b]) s
theorem parse_cons {b : Int} (h : b ≠ 194) (l c s : List Int) : parse (b :: l) c s = parse l (c ++ [b]) s := by
  cases l with
  | nil => simp [parse, h]
  | cons b2 l => rw [parse, if_neg h]
theorem parse_soft (l c s : List Int) : parse (194 :: 173 :: l) c s = parse l c (s ++ [(c.length : Int)]) := by rw [parse, if_pos rfl, if_pos rfl]
theorem next_plain (c s : List Int) (b : Int) (hb : 0 ≤ b ∧ b < 256) (h : b ≠ 194) : text_reader_take.next ⟨c, s, false, false⟩ b = ⟨c ++ [b], s, false, false⟩ := by
  unfold text_reader_take.next
  rw [if_neg (by simp), if_neg h, wrap_in (by omega) (by omega)]
theorem next_half (c s : List Int) : text_reader_take.next ⟨c, s, false, false⟩ 194 = ⟨c, s, true, false⟩ := by
  unfold text_reader_take.next
  rw [if_neg (by simp), if_pos rfl]
theorem next_soft (c s : List Int) (b : Int) : text_reader_take.next ⟨c, s, true, false⟩ b = ⟨c, s ++ [(c.length : Int)], false, b != 173⟩ := by
  unfold text_reader_take.next
  rw [if_pos rfl]
  simp
theorem bad_stays (l : List Int) : ∀ s : text_reader_take.St, s.bad = true → (l.foldl text_reader_take.next s).bad = true := by
  induction l with
  | nil => exact fun s h => h
  | cons b l ih =>
    intro s h
    rw [List.foldl_cons]
    apply ih
    unfold text_reader_take.next
    split
    · simp [h]
    · split <;> exact h
theorem st_some : ∀ (l c s c' s' : List Int), Bytes l → parse l c s = some (c', s') → l.foldl text_reader_take.next ⟨c, s, false, false⟩ = ⟨c', s', false, false⟩
  | [], c, s, c', s', _, h => by
    simp only [parse, Option.some.injEq, Prod.mk.injEq] at h
    obtain ⟨rfl, rfl⟩ := h
    rfl
  | [b], c, s, c', s', hb, h => by
    rw [parse] at h
    by_cases h1 : b = 194
    · rw [if_pos h1] at h; cases h
    · rw [if_neg h1] at h
      simp only [Option.some.injEq, Prod.mk.injEq] at h
      obtain ⟨rfl, rfl⟩ := h
      rw [List.foldl_cons, next_plain c s b hb.head h1]
      rfl
  | b :: b2 :: l, c, s, c', s', hb, h => by
    rw [parse] at h
    by_cases h1 : b = 194
    · rw [if_pos h1] at h
      by_cases h2 : b2 = 173
      · rw [if_pos h2] at h
        subst h1 h2
        rw [List.foldl_cons, List.foldl_cons, next_half, next_soft]
        exact st_some l c _ c' s' hb.tail.tail h
      · rw [if_neg h2] at h; cases h
    · rw [if_neg h1] at h
      rw [List.foldl_cons, next_plain c s b hb.head h1]
      exact st_some (b2 :: l) _ s c' s' hb.tail h
theorem st_none : ∀ (l c s : List Int), Bytes l → parse l c s = none → ((l.foldl text_reader_take.next ⟨c, s, false, false⟩).half || (l.foldl text_reader_take.next ⟨c, s, false, false⟩).bad) = true
  | [], c, s, _, h => by simp [parse] at h
  | [b], c, s, hb, h => by
    rw [parse] at h
    by_cases h1 : b = 194
    · subst h1
      rw [List.foldl_cons, next_half]
      rfl
    · rw [if_neg h1] at h; cases h
  | b :: b2 :: l, c, s, hb, h => by
    rw [parse] at h
    by_cases h1 : b = 194
    · rw [if_pos h1] at h
      subst h1
      by_cases h2 : b2 = 173
      · rw [if_pos h2] at h
        subst h2
        rw [List.foldl_cons, List.foldl_cons, next_half, next_soft]
        exact st_none l c _ hb.tail.tail h
      · rw [List.foldl_cons, List.foldl_cons, next_half, next_soft, bad_stays l _ (by simp [h2]), Bool.or_true]
    · rw [if_neg h1] at h
      rw [List.foldl_cons, next_plain c s b hb.head h1]
      exact st_none (b2 :: l) _ s hb.tail h
theorem parse_len : ∀ (l c s c' s' : List Int), parse l c s = some (c', s') → c'.length + 2 * s'.length = c.length + 2 * s.length + l.length
  | [], c, s, c', s', h => by
    simp only [parse, Option.some.injEq, Prod.mk.injEq] at h
    obtain ⟨rfl, rfl⟩ := h
    rfl
  | [b], c, s, c', s', h => by
    rw [parse] at h
    by_cases h1 : b = 194
    · rw [if_pos h1] at h; cases h
    · rw [if_neg h1] at h
      simp only [Option.some.injEq, Prod.mk.injEq] at h
      obtain ⟨rfl, rfl⟩ := h
      simp only [List.length_append, List.length_cons, List.length_nil]
      omega
  | b :: b2 :: l, c, s, c', s', h => by
    rw [parse] at h
    by_cases h1 : b = 194
    · rw [if_pos h1] at h
      by_cases h2 : b2 = 173
      · rw [if_pos h2] at h
        have := parse_len l c _ c' s' h
        simp only [List.length_append, List.length_cons, List.length_nil] at this ⊢
        omega
      · rw [if_neg h2] at h; cases h
    · rw [if_neg h1] at h
      have := parse_len (b2 :: l) _ s c' s' h
      simp only [List.length_append, List.length_cons, List.length_nil] at this ⊢
      omega
def parseAll : List (List Int) → Option (List S36)
  | [] => some []
  | p :: ps => (parse p [] []).bind fun r => (parseAll ps).map fun ws => (⟨r.1, r.2⟩ : S36) :: ws
theorem parseAll_len : ∀ (ps : List (List Int)) (ws : List S36), parseAll ps = some ws → ws.length = ps.length := by
  intro ps
  induction ps with
  | nil => intro ws h; simp only [parseAll, Option.some.injEq] at h; rw [← h]; rfl
  | cons p ps ih =>
    intro ws h
    simp only [parseAll, Option.bind_eq_some_iff, Option.map_eq_some_iff] at h
    obtain ⟨r, _, ws', h2, rfl⟩ := h
    simp [ih ws' h2]
theorem parseAll_app (ps qs : List (List Int)) : parseAll (ps ++ qs) = (parseAll ps).bind fun a => (parseAll qs).map fun b => a ++ b := by
  induction ps with
  | nil => simp [parseAll]
  | cons p ps ih =>
    rw [List.cons_append, parseAll, parseAll, ih]
    cases parse p [] [] with
    | none => rfl
    | some r =>
      simp only [Option.bind_some]
      cases parseAll ps with
      | none => rfl
      | some a => cases parseAll qs <;> rfl
theorem fail_some {p c s : List Int} (hb : Bytes p) (h : parse p [] [] = some (c, s)) (n : Nat) : text_Read.st p = ⟨c, s, false, false⟩ ∧ text_Read.fail n (text_Read.st p) = decide (100 < n) := by
  have e : text_Read.st p = ⟨c, s, false, false⟩ := st_some p [] [] c s hb h
  refine ⟨e, ?_⟩
  rw [e]
  simp [text_Read.fail]
theorem fail_none {p : List Int} (hb : Bytes p) (h : parse p [] [] = none) (n : Nat) : text_Read.fail n (text_Read.st p) = true := by
  have e := st_none p [] [] hb h
  unfold text_Read.fail text_Read.st
  rw [← Bool.or_assoc, e, Bool.true_or]
theorem run_few : ∀ (ps : List (List Int)) (out ws : List S36), (∀ p ∈ ps, Bytes p) → parseAll ps = some ws → out.length + ps.length ≤ 101 → text_Read.run ps out = some (out ++ ws) := by
  intro ps
  induction ps with
  | nil => intro out ws _ h _; simp only [parseAll, Option.some.injEq] at h; rw [← h, text_Read.run, List.append_nil]
  | cons p ps ih =>
    intro out ws hb h hn
    simp only [parseAll, Option.bind_eq_some_iff, Option.map_eq_some_iff] at h
    obtain ⟨⟨c, s⟩, h1, ws', h2, rfl⟩ := h
    obtain ⟨e1, e2⟩ := fail_some (hb p (by simp)) h1 out.length
    simp only [List.length_cons] at hn
    rw [text_Read.run, if_neg (by rw [e2]; simp; omega), e1, ih _ ws' (fun q hq => hb q (by simp [hq])) h2 (by simp only [List.length_append, List.length_cons, List.length_nil]; omega)]
    simp
theorem run_many : ∀ (ps : List (List Int)) (out : List S36), out.length ≤ 101 → 101 < out.length + ps.length → text_Read.run ps out = none := by
  intro ps
  induction ps with
  | nil => intro out h1 h2; simp at h2; omega
  | cons p ps ih =>
    intro out h1 h2
    rw [text_Read.run]
    split
    · rfl
    · rename_i h
      have h3 : ¬ 100 < out.length := by
        intro h4
        apply h
        unfold text_Read.fail
        simp [h4]
      exact ih _ (by simp only [List.length_append, List.length_cons, List.length_nil]; omega) (by simp only [List.length_append, List.length_cons, List.length_nil] at h2 ⊢; omega)
theorem run_bad : ∀ (ps : List (List Int)) (out : List S36), (∀ p ∈ ps, Bytes p) → parseAll ps = none → text_Read.run ps out = none := by
  intro ps
  induction ps with
  | nil => intro out _ h; simp [parseAll] at h
  | cons p ps ih =>
    intro out hb h
    rw [text_Read.run]
    split
    · rfl
    · rename_i hf
      rw [parseAll] at h
      cases hp : parse p [] [] with
      | none => exact absurd (fail_none (hb p (by simp)) hp out.length) hf
      | some r =>
        rw [hp, Option.bind_some] at h
        refine ih _ (fun q hq => hb q (by simp [hq])) ?_
        cases ha : parseAll ps with
        | none => rfl
        | some a => rw [ha] at h; cases h
/-! ### how bytes fall into pieces -/
theorem cut_zero {b : Int} (h : gapB b = true) (l : List Int) : text_words_2.cut (b :: l) = 0 := by
  unfold text_words_2.cut
  rw [List.findIdx?_cons, gap_eq, h]
  rfl
theorem cut_succ {b : Int} (h : gapB b = false) (l : List Int) : text_words_2.cut (b :: l) = text_words_2.cut l + 1 := by
  unfold text_words_2.cut
  rw [List.findIdx?_cons, gap_eq, h]
  cases l.findIdx? text_words_2.gap <;> simp
theorem cut_nil : text_words_2.cut [] = 0 := rfl
theorem all_gap {b : Int} (h : gapB b = true) (l : List Int) : text_words_2.all (b :: l) = text_words_2.all l := by
  rw [text_words_2.all_step _ (by simp), cut_zero h]
  simp
theorem cut_app (p l : List Int) (h : ∀ b ∈ p, gapB b = false) : text_words_2.cut (p ++ l) = p.length + text_words_2.cut l := by
  induction p with
  | nil => simp
  | cons b p ih =>
    rw [List.cons_append, cut_succ (h b (by simp)), ih (fun x hx => h x (by simp [hx])), List.length_cons]
    omega
theorem all_word (p l : List Int) (hp : p ≠ []) (h : ∀ b ∈ p, gapB b = false) (hl : l = [] ∨ ∃ g l', l = g :: l' ∧ gapB g = true) : text_words_2.all (p ++ l) = p :: text_words_2.all l := by
  have hpl : 0 < p.length := List.length_pos_iff.2 hp
  have hc : text_words_2.cut (p ++ l) = p.length := by
    rw [cut_app p l h]
    rcases hl with rfl | ⟨g, l', rfl, hg⟩
    · rfl
    · rw [cut_zero hg]; rfl
  rw [text_words_2.all_step _ (by simp [hp]), hc, if_pos hpl, List.take_left']
  · rcases hl with rfl | ⟨g, l', rfl, hg⟩
    · simp
    · rw [all_gap hg, show min (p.length + 1) (p ++ g :: l').length = p.length + 1 by simp, List.drop_append, List.drop_of_length_le (by omega)]
      simp
  · rfl
/-- A first piece, or a gap, or nothing. -/
theorem fall (l : List Int) : l = [] ∨ (∃ g l', l = g :: l' ∧ gapB g = true) ∨ ∃ p l', l = p ++ l' ∧ p ≠ [] ∧ (∀ b ∈ p, gapB b = false) ∧ (l' = [] ∨ ∃ g l'', l' = g :: l'' ∧ gapB g = true) := by
  induction l with
  | nil => exact .inl rfl
  | cons b l ih =>
    cases hb : gapB b with
    | true => exact .inr (.inl ⟨b, l, rfl, hb⟩)
    | false =>
      refine .inr (.inr ?_)
      rcases ih with rfl | ⟨g, l', rfl, hg⟩ | ⟨p, l', rfl, hp, hn, hl⟩
      · exact ⟨[b], [], rfl, by simp, by simp [hb], .inl rfl⟩
      · exact ⟨[b], g :: l', rfl, by simp, by simp [hb], .inr ⟨g, l', rfl, hg⟩⟩
      · refine ⟨b :: p, l', rfl, by simp, ?_, hl⟩
        intro x hx
        rcases List.mem_cons.1 hx with rfl | hx
        · exact hb
        · exact hn x hx
theorem all_app (a : List Int) {g : Int} (hg : gapB g = true) (b : List Int) : text_words_2.all (a ++ g :: b) = text_words_2.all a ++ text_words_2.all b := by
  obtain ⟨n, hn⟩ : ∃ n, a.length ≤ n := ⟨_, Nat.le_refl _⟩
  induction n generalizing a with
  | zero =>
    obtain rfl : a = [] := List.length_eq_zero_iff.1 (by omega)
    rw [List.nil_append, all_gap hg]
    rfl
  | succ n ih =>
    rcases fall a with rfl | ⟨g', l', rfl, hg'⟩ | ⟨p, l', rfl, hp, hnp, hl⟩
    · rw [List.nil_append, all_gap hg]
      rfl
    · rw [List.cons_append, all_gap hg', all_gap hg', ih l' (by simp at hn; omega)]
    · have hpl : 0 < p.length := List.length_pos_iff.2 hp
      rw [List.append_assoc, all_word p (l' ++ g :: b) hp hnp ?_, all_word p l' hp hnp hl, ih l' (by simp at hn; omega), List.cons_append]
      rcases hl with rfl | ⟨g', l'', rfl, hg'⟩
      · exact .inr ⟨g, b, rfl, hg⟩
      · exact .inr ⟨g', l'' ++ g :: b, rfl, hg'⟩
theorem all_one (p : List Int) (hp : p ≠ []) (h : ∀ b ∈ p, gapB b = false) : text_words_2.all p = [p] := by
  have := all_word p [] hp h (.inl rfl)
  rw [List.append_nil] at this
  rw [this]
  rfl
theorem all_mem (l : List Int) : ∀ p ∈ text_words_2.all l, ∀ b ∈ p, b ∈ l := by
  obtain ⟨n, hn⟩ : ∃ n, l.length ≤ n := ⟨_, Nat.le_refl _⟩
  induction n generalizing l with
  | zero =>
    obtain rfl : l = [] := List.length_eq_zero_iff.1 (by omega)
    intro p hp
    cases hp
  | succ n ih =>
    rcases fall l with rfl | ⟨g', l', rfl, hg'⟩ | ⟨p, l', rfl, hp, hnp, hl⟩
    · intro p hp
      cases hp
    · rw [all_gap hg']
      intro p hp b hb
      exact List.mem_cons_of_mem _ (ih l' (by simp at hn; omega) p hp b hb)
    · have hpl : 0 < p.length := List.length_pos_iff.2 hp
      rw [all_word p l' hp hnp hl]
      intro q hq b hb
      rcases List.mem_cons.1 hq with rfl | hq
      · exact List.mem_append_left _ hb
      · exact List.mem_append_right _ (ih l' (by simp at hn; omega) q hq b hb)
def sumLen (ps : List (List Int)) : Nat := (ps.map List.length).sum
theorem all_sum (l : List Int) : sumLen (text_words_2.all l) + (text_words_2.all l).length ≤ l.length + 1 := by
  obtain ⟨n, hn⟩ : ∃ n, l.length ≤ n := ⟨_, Nat.le_refl _⟩
  induction n generalizing l with
  | zero =>
    obtain rfl : l = [] := List.length_eq_zero_iff.1 (by omega)
    exact Nat.zero_le _
  | succ n ih =>
    rcases fall l with rfl | ⟨g', l', rfl, hg'⟩ | ⟨p, l', rfl, hp, hnp, hl⟩
    · exact Nat.zero_le _
    · rw [all_gap hg']
      have := ih l' (by simp at hn; omega)
      simp only [List.length_cons]
      omega
    · have hpl : 0 < p.length := List.length_pos_iff.2 hp
      rw [all_word p l' hp hnp hl]
      rcases hl with rfl | ⟨g', l'', rfl, hg'⟩
      · simp [sumLen, show text_words_2.all [] = [] from rfl]
      · rw [all_gap hg']
        have := ih l'' (by simp at hn; omega)
        simp only [sumLen, List.map_cons, List.sum_cons, List.length_cons, List.length_append] at this ⊢
        omega
theorem all_bytes {l : List Int} (h : Bytes l) : ∀ p ∈ text_words_2.all l, Bytes p := fun p hp b hb => h b (all_mem l p hp b hb)
theorem sumLen_mem {ps : List (List Int)} {p : List Int} (h : p ∈ ps) : p.length ≤ sumLen ps := by
  induction ps with
  | nil => cases h
  | cons q ps ih =>
    rcases List.mem_cons.1 h with rfl | h
    · simp [sumLen]
    · have := ih h
      simp only [sumLen, List.map_cons, List.sum_cons] at this ⊢
      omega
/-- The words of a text. -/
def readV (l : List Int) : List S36 × Int :=
  match parseAll (text_words_2.all l) with
  | none => ([], 130)
  | some ws => if okB ws = true then (ws, 0) else ([], 130)
theorem parseAll_small : ∀ (ps : List (List Int)) (ws : List S36), parseAll ps = some ws → ∀ x ∈ ws, x.f0.length ≤ sumLen ps ∧ x.f1.length ≤ sumLen ps := by
  intro ps
  induction ps with
  | nil => intro ws h; simp only [parseAll, Option.some.injEq] at h; rw [← h]; intro x hx; cases hx
  | cons p ps ih =>
    intro ws h
    simp only [parseAll, Option.bind_eq_some_iff, Option.map_eq_some_iff] at h
    obtain ⟨⟨c, s⟩, h1, ws', h2, rfl⟩ := h
    have hl := parse_len p [] [] c s h1
    intro x hx
    simp only [sumLen, List.map_cons, List.sum_cons]
    rcases List.mem_cons.1 hx with rfl | hx
    · simp only [List.length_nil] at hl
      constructor <;> simp only <;> omega
    · have := ih ws' h2 x hx
      simp only [sumLen] at this
      omega
theorem read_f (l : List Int) (hb : Bytes l) (hl : l.length ≤ 1000000) : Ev (fun k => text_Read.f k l) (readV l) := by
  unfold text_Read.f readV
  simp only [if_pos (show l.length < 1000000000000 by omega)]
  have hps := all_bytes hb
  have hsum := all_sum l
  cases ha : parseAll (text_words_2.all l) with
  | none =>
    simp only [run_bad _ [] hps ha]
    exact Ev.now _
  | some ws =>
    have hlen := parseAll_len _ _ ha
    have hsm := parseAll_small _ _ ha
    by_cases hn : (text_words_2.all l).length ≤ 101
    · simp only [run_few _ [] ws hps ha (by simpa using hn), List.nil_append]
      refine Ev.bind (check_f ws (by omega) (fun x hx => by have := hsm x hx; omega)) ?_
      cases okB ws with
      | true => simp only [if_true]; exact Ev.now _
      | false => simp only [Bool.false_eq_true, if_false]; exact Ev.now _
    · have hrm := run_many (text_words_2.all l) [] (by simp) (by simp only [List.length_nil]; omega)
      simp only [hrm]
      have hno : okB ws = false := by
        cases ho : okB ws with
        | false => rfl
        | true => have := (okB_iff ho).2.1; omega
      simp only [hno, Bool.false_eq_true, if_false]
      exact Ev.now _
end Go.Proofs.Ytanhafkoohnjhaa.L
