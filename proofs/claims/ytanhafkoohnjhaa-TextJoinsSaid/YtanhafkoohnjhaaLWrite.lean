/- What a text of words is, that it reads as they are, and how many bytes it has. -/
import Derived.Test.YtanhafkoohnjhaaLRef
namespace Go.Proofs.Ytanhafkoohnjhaa.L
open Go.RowKit Go.Proofs.Ytanhafkoohnjhaa.G Go.Proofs.YtanhafkoohnjhaaW.PrintWords
set_option linter.unusedVariables false
set_option linter.unusedSimpArgs false
theorem put_out (cs : List Int) : ∀ (i : Nat) (s out : List Int), text_Write.put cs i s out = out ++ text_Write.put cs i s [] := by
  induction cs with
  | nil => intro i s out; simp [text_Write.put]
  | cons c cs ih =>
    intro i s out
    rw [text_Write.put]
    conv => rhs; rw [text_Write.put]
    split
    · rw [ih (i + 1) s.tail (out ++ [194, 173] ++ [c % 256]), ih (i + 1) s.tail ([] ++ [194, 173] ++ [c % 256])]
      simp
    · rw [ih (i + 1) s (out ++ [c % 256]), ih (i + 1) s ([] ++ [c % 256])]
      simp
theorem put_soft (c : Int) (cs : List Int) (i : Nat) (s : List Int) : text_Write.put (c :: cs) i ((i : Int) :: s) [] = 194 :: 173 :: (c % 256) :: text_Write.put cs (i + 1) s [] := by
  rw [text_Write.put, if_pos (by simp), put_out]
  simp
theorem put_plain (c : Int) (cs : List Int) (i : Nat) (s : List Int) (h : s.head? ≠ some (i : Int)) : text_Write.put (c :: cs) i s [] = (c % 256) :: text_Write.put cs (i + 1) s [] := by
  rw [text_Write.put, if_neg h, put_out]
  simp
/-- Soft hyphens from number i on, of n codes. -/
abbrev softF (n i : Nat) (s : List Int) : Prop := softB (n : Int) ((i : Int) - 1) s = true
theorem softB_weak {n : Int} : ∀ {s : List Int} {a b : Int}, b ≤ a → softB n a s = true → softB n b s = true := by
  intro s a b h h1
  cases s with
  | nil => rfl
  | cons x s =>
    simp only [softB, Bool.and_eq_true, decide_eq_true_eq] at h1 ⊢
    exact ⟨by omega, h1.2⟩
theorem softF_zero {n : Nat} {s : List Int} (h : softB (n : Int) 0 s = true) : softF n 0 s := softB_weak (by omega) h
theorem softF_end {n : Nat} {s : List Int} (h : softF n n s) : s = [] := by
  cases s with
  | nil => rfl
  | cons x s =>
    simp only [softF, softB, Bool.and_eq_true, decide_eq_true_eq] at h
    omega
/-- At number i a soft hyphen stands, or none does. -/
theorem softF_cases {n i : Nat} {s : List Int} (h : softF n i s) : (∃ t, s = (i : Int) :: t ∧ softF n (i + 1) t) ∨ (s.head? ≠ some (i : Int) ∧ softF n (i + 1) s) := by
  cases s with
  | nil => exact .inr ⟨by simp, rfl⟩
  | cons x t =>
    have h' := h
    simp only [softF, softB, Bool.and_eq_true, decide_eq_true_eq] at h
    by_cases hx : x = (i : Int)
    · subst hx
      refine .inl ⟨t, rfl, ?_⟩
      show softB _ _ _ = true
      rw [show (((i + 1 : Nat) : Int) - 1) = (i : Int) by omega]
      exact h.2.2
    · refine .inr ⟨by simpa using hx, ?_⟩
      show softB _ _ _ = true
      simp only [softB, Bool.and_eq_true, decide_eq_true_eq]
      exact ⟨by omega, h.2⟩
theorem code_b {c : Int} (h : codeB c = true) : c % 256 = c ∧ c ≠ 194 ∧ gapB c = false ∧ 0 ≤ c ∧ c < 256 ∧ c ≠ 173 := by
  simp only [codeB, Bool.and_eq_true, decide_eq_true_eq] at h
  refine ⟨by omega, by omega, ?_, by omega, by omega, by omega⟩
  unfold gapB
  simp only [Bool.or_eq_false_iff, decide_eq_false_iff_not]
  omega
theorem parse_put (cs : List Int) : ∀ (i : Nat) (soft c s : List Int), c.length = i → softF (i + cs.length) i soft → cs.all codeB = true → parse (text_Write.put cs i soft []) c s = some (c ++ cs, s ++ soft) := by
  induction cs with
  | nil =>
    intro i soft c s hc hs _
    rw [softF_end hs]
    simp [text_Write.put, parse]
  | cons x cs ih =>
    intro i soft c s hc hs ha
    simp only [List.all_cons, Bool.and_eq_true] at ha
    obtain ⟨hx1, hx2, _⟩ := code_b ha.1
    have hn : i + (x :: cs).length = i + 1 + cs.length := by simp; omega
    rw [hn] at hs
    rcases softF_cases hs with ⟨t, rfl, ht⟩ | ⟨hh, ht⟩
    · rw [put_soft, parse_soft, hx1, parse_cons hx2, ih (i + 1) t (c ++ [x]) _ (by simp [hc]) ht ha.2, hc]
      simp
    · rw [put_plain x cs i soft hh, hx1, parse_cons hx2, ih (i + 1) soft (c ++ [x]) s (by simp [hc]) ht ha.2]
      simp
theorem put_len (cs : List Int) : ∀ (i : Nat) (soft : List Int), softF (i + cs.length) i soft → (text_Write.put cs i soft []).length = cs.length + 2 * soft.length := by
  induction cs with
  | nil =>
    intro i soft hs
    rw [softF_end hs]
    rfl
  | cons x cs ih =>
    intro i soft hs
    have hn : i + (x :: cs).length = i + 1 + cs.length := by simp; omega
    rw [hn] at hs
    rcases softF_cases hs with ⟨t, rfl, ht⟩ | ⟨hh, ht⟩
    · rw [put_soft]
      simp only [List.length_cons, ih (i + 1) t ht]
      omega
    · rw [put_plain x cs i soft hh]
      simp only [List.length_cons, ih (i + 1) soft ht]
      omega
theorem put_mem (cs : List Int) : ∀ (i : Nat) (soft : List Int), cs.all codeB = true → ∀ b ∈ text_Write.put cs i soft [], gapB b = false ∧ 0 ≤ b ∧ b < 256 := by
  induction cs with
  | nil => intro i soft _ b hb; simp [text_Write.put] at hb
  | cons x cs ih =>
    intro i soft ha b hb
    simp only [List.all_cons, Bool.and_eq_true] at ha
    obtain ⟨hx1, _, hx3, hx4, hx5, _⟩ := code_b ha.1
    by_cases hh : soft.head? = some (i : Int)
    · obtain ⟨t, rfl⟩ : ∃ t, soft = (i : Int) :: t := by
        cases soft with
        | nil => simp at hh
        | cons y t => simp at hh; exact ⟨t, by rw [hh]⟩
      rw [put_soft, hx1] at hb
      simp only [List.mem_cons] at hb
      rcases hb with rfl | rfl | rfl | hb
      · exact ⟨by decide, by decide, by decide⟩
      · exact ⟨by decide, by decide, by decide⟩
      · exact ⟨hx3, hx4, hx5⟩
      · exact ih _ _ ha.2 b hb
    · rw [put_plain x cs i soft hh, hx1] at hb
      rcases List.mem_cons.1 hb with rfl | hb
      · exact ⟨hx3, hx4, hx5⟩
      · exact ih _ _ ha.2 b hb
/-- A word's bytes. -/
def wb (x : S36) : List Int := text_Write.put x.f0 0 x.f1 []
theorem okW_iff {x : S36} (h : okW x = true) : softF (0 + x.f0.length) 0 x.f1 ∧ x.f0.all codeB = true ∧ 1 ≤ x.f0.length ∧ x.f0.length ≤ 60 := by
  have hl := wordB_len (c := x.f0) (s := x.f1) h
  simp only [okW, wordB, Bool.and_eq_true] at h
  refine ⟨?_, h.2.2, hl⟩
  rw [Nat.zero_add]
  exact softF_zero h.1
theorem wb_parse {x : S36} (h : okW x = true) : parse (wb x) [] [] = some (x.f0, x.f1) := by
  obtain ⟨h1, h2, _⟩ := okW_iff h
  have := parse_put x.f0 0 x.f1 [] [] rfl h1 h2
  unfold wb
  simpa using this
theorem wb_len {x : S36} (h : okW x = true) : (wb x).length = x.f0.length + 2 * x.f1.length := put_len _ _ _ (okW_iff h).1
theorem wb_mem {x : S36} (h : okW x = true) : ∀ b ∈ wb x, gapB b = false ∧ 0 ≤ b ∧ b < 256 := put_mem _ _ _ (okW_iff h).2.1
theorem wb_ne {x : S36} (h : okW x = true) : wb x ≠ [] := by
  intro e
  have h1 := wb_len h
  have h2 := (okW_iff h).2.2.1
  rw [e] at h1
  simp at h1
  omega
theorem softF_len {n : Nat} : ∀ {s : List Int} {i : Nat}, softF n i s → s.length ≤ n - i := by
  intro s
  induction s with
  | nil => intro i _; exact Nat.zero_le _
  | cons x s ih =>
    intro i h
    simp only [softF, softB, Bool.and_eq_true, decide_eq_true_eq] at h
    have hx : x = ((x.toNat : Nat) : Int) := by omega
    have h2 : softF n (x.toNat + 1) s := by
      show softB _ _ _ = true
      rw [show (((x.toNat + 1 : Nat) : Int) - 1) = x by omega]
      exact h.2.2
    have := ih h2
    simp only [List.length_cons]
    omega
theorem okW_soft {x : S36} (h : okW x = true) : x.f1.length ≤ x.f0.length := by
  have := softF_len (okW_iff h).1
  omega
def tailV : List S36 → List Int
  | [] => []
  | x :: l => 32 :: (wb x ++ tailV l)
def writeV : List S36 → List Int
  | [] => []
  | x :: l => wb x ++ tailV l
theorem run_tail (l : List S36) : ∀ (i : Nat) (out : List Int), 0 < i → text_Write.run l i out = out ++ tailV l := by
  induction l with
  | nil => intro i out _; simp [text_Write.run, tailV]
  | cons x l ih =>
    intro i out hi
    rw [text_Write.run, if_pos hi, put_out, ih (i + 1) _ (by omega), tailV, wb]
    simp
theorem run_0 (l : List S36) : text_Write.run l 0 [] = writeV l := by
  cases l with
  | nil => rfl
  | cons x l =>
    rw [text_Write.run, if_neg (by omega), run_tail l 1 _ (by omega)]
    rfl
theorem tail_all (l : List S36) (h : ∀ x ∈ l, okW x = true) : ∀ (x : S36), okW x = true → text_words_2.all (wb x ++ tailV l) = wb x :: l.map wb := by
  induction l with
  | nil =>
    intro x hx
    rw [tailV, List.append_nil, all_one (wb x) (wb_ne hx) (fun b hb => (wb_mem hx b hb).1)]
    rfl
  | cons y l ih =>
    intro x hx
    rw [tailV, all_app (wb x) (by decide), all_one (wb x) (wb_ne hx) (fun b hb => (wb_mem hx b hb).1), ih (fun z hz => h z (by simp [hz])) y (h y (by simp))]
    rfl
theorem write_all (l : List S36) (h : ∀ x ∈ l, okW x = true) : text_words_2.all (writeV l) = l.map wb := by
  cases l with
  | nil => rfl
  | cons x l => exact tail_all l (fun y hy => h y (by simp [hy])) x (h x (by simp))
theorem parseAll_wb (l : List S36) (h : ∀ x ∈ l, okW x = true) : parseAll (l.map wb) = some l := by
  induction l with
  | nil => rfl
  | cons x l ih =>
    rw [List.map_cons, parseAll, wb_parse (h x (by simp)), Option.bind_some, ih (fun y hy => h y (by simp [hy]))]
    rfl
theorem okB_all {l : List S36} (h : okB l = true) : ∀ x ∈ l, okW x = true := fun x hx => (okB_iff h).2.2.1 x hx
theorem read_write {l : List S36} (h : okB l = true) : readV (writeV l) = (l, 0) := by
  unfold readV
  rw [write_all l (okB_all h), parseAll_wb l (okB_all h)]
  simp only [h, if_true]
theorem tail_bytes (l : List S36) (h : ∀ x ∈ l, okW x = true) : Bytes (tailV l) := by
  induction l with
  | nil => intro b hb; cases hb
  | cons x l ih =>
    intro b hb
    rw [tailV] at hb
    rcases List.mem_cons.1 hb with rfl | hb
    · exact ⟨by decide, by decide⟩
    · rcases List.mem_append.1 hb with hb | hb
      · exact (wb_mem (h x (by simp)) b hb).2
      · exact ih (fun y hy => h y (by simp [hy])) b hb
theorem write_bytes (l : List S36) (h : ∀ x ∈ l, okW x = true) : Bytes (writeV l) := by
  cases l with
  | nil => intro b hb; cases hb
  | cons x l =>
    intro b hb
    rcases List.mem_append.1 hb with hb | hb
    · exact (wb_mem (h x (by simp)) b hb).2
    · exact tail_bytes l (fun y hy => h y (by simp [hy])) b hb
def softs (l : List S36) : Nat := (l.map fun x => x.f1.length).sum
theorem softs_cons (x : S36) (l : List S36) : softs (x :: l) = x.f1.length + softs l := by simp [softs]
theorem tail_len (l : List S36) (h : ∀ x ∈ l, okW x = true) : (tailV l).length = total l + 2 * softs l + l.length := by
  induction l with
  | nil => rfl
  | cons x l ih =>
    rw [tailV, total_cons, softs_cons, List.length_cons, List.length_append, wb_len (h x (by simp)), ih (fun y hy => h y (by simp [hy])), List.length_cons]
    omega
theorem write_len (l : List S36) (h : ∀ x ∈ l, okW x = true) (h0 : 1 ≤ l.length) : (writeV l).length + 1 = total l + 2 * softs l + l.length := by
  cases l with
  | nil => simp at h0
  | cons x l =>
    rw [writeV, total_cons, softs_cons, List.length_append, wb_len (h x (by simp)), tail_len l (fun y hy => h y (by simp [hy])), List.length_cons]
    omega
theorem softs_le (l : List S36) (h : ∀ x ∈ l, okW x = true) : softs l ≤ total l := by
  induction l with
  | nil => exact Nat.le_refl _
  | cons x l ih =>
    rw [softs_cons, total_cons]
    have := ih (fun y hy => h y (by simp [hy]))
    have := okW_soft (h x (by simp))
    omega
theorem write_small {l : List S36} (h : okB l = true) : (writeV l).length ≤ 1300 := by
  have h1 := write_len l (okB_all h) (okB_iff h).1
  have h2 := softs_le l (okB_all h)
  have h3 := okB_iff h
  omega
/-- What Write answers. -/
def writtenV (l : List S36) : List Int × Int := if okB l = true then (writeV l, 0) else ([], 130)
theorem write_f (l : List S36) (hl : l.length ≤ 1000000) (hs : ∀ x ∈ l, x.f1.length < 9223372036854775807) : Ev (fun k => text_Write.f k l) (writtenV l) := by
  unfold text_Write.f writtenV
  refine Ev.bind (check_f l (by omega) hs) ?_
  cases h : okB l with
  | false => simp only [Bool.false_eq_true, if_false]; exact Ev.now _
  | true =>
    have hw := write_small h
    simp only [if_true, run_0, if_pos (show (writeV l).length < 1000000000000 by omega)]
    exact Ev.now _
/-! ### the reference's writing -/
theorem rbytes_l1 (c s : List Int) (hc : c.length ≤ 1000) (hs : s.length ≤ 1000) (i : Nat) (hi : i < c.length) (r : List Int) : ∀ (d j : Nat) (out : List Int), s.length - j ≤ d → j ≤ s.length → out.length ≤ 100000 + 2 * j →
    Ev (fun k => compositorref13_bytes.l0 k (out ++ ((s.drop j).filter (fun x => decide (x = (i : Int)))).flatMap (fun _ => [194, 173]) ++ [c[i] % 256]) ((i + 1 : Nat) : Int) c s) r → Ev (fun k => compositorref13_bytes.l1 k out (i : Int) (j : Int) c s) r := by
  intro d
  induction d with
  | zero =>
    intro j out hd hj ho h
    obtain rfl : j = s.length := by omega
    refine Ev.step (fun k => compositorref13_bytes.l1.eq_2 _ _ _ _ _ _) ?_
    simp only [if_neg (show ¬ ((s.length : Nat) : Int) < (s.length : Int) by omega), if_pos (show (0 : Int) ≤ (i : Int) by omega), if_pos (show (i : Int) < (c.length : Int) by omega), if_pos (show out.length < 140737488355328 by omega), rd_nat c i hi, wrap_nat i (by omega)]
    rw [List.drop_length] at h
    simpa using h
  | succ d ih =>
    intro j out hd hj ho h
    by_cases hlt : j < s.length
    · refine Ev.step (fun k => compositorref13_bytes.l1.eq_2 _ _ _ _ _ _) ?_
      simp only [if_pos (show (j : Int) < (s.length : Int) by omega), if_pos (show (0 : Int) ≤ (j : Int) by omega), rd_nat s j hlt, wrap_nat j (by omega), Option.bind_some]
      rw [drop_at s j hlt, List.filter_cons] at h
      by_cases hx : s[j] = (i : Int)
      · simp only [if_pos hx, if_pos (show out.length + ([194, 173] : List Int).length < 140737488355328 by simp; omega)]
        refine ih (j + 1) _ (by omega) (by omega) (by simp; omega) ?_
        simp only [hx, decide_true, if_true, List.flatMap_cons] at h
        simpa [List.append_assoc] using h
      · simp only [if_neg hx]
        refine ih (j + 1) _ (by omega) (by omega) (by omega) ?_
        simp only [hx, decide_false, Bool.false_eq_true, if_false] at h
        exact h
    · obtain rfl : j = s.length := by omega
      refine Ev.step (fun k => compositorref13_bytes.l1.eq_2 _ _ _ _ _ _) ?_
      simp only [if_neg (show ¬ ((s.length : Nat) : Int) < (s.length : Int) by omega), if_pos (show (0 : Int) ≤ (i : Int) by omega), if_pos (show (i : Int) < (c.length : Int) by omega), if_pos (show out.length < 140737488355328 by omega), rd_nat c i hi, wrap_nat i (by omega)]
      rw [List.drop_length] at h
      simpa using h
theorem filt_none (s : List Int) (i : Int) (h : ∀ x ∈ s, x ≠ i) : (s.filter (fun x => decide (x = i))).flatMap (fun _ => ([194, 173] : List Int)) = [] := by
  rw [List.filter_eq_nil_iff.2 (fun x hx => by simpa using h x hx)]
  rfl
theorem softF_mem {n : Nat} : ∀ {s : List Int} {i : Nat}, softF n i s → ∀ x ∈ s, (i : Int) ≤ x := by
  intro s
  induction s with
  | nil => intro i _ x hx; cases hx
  | cons y s ih =>
    intro i h x hx
    simp only [softF, softB, Bool.and_eq_true, decide_eq_true_eq] at h
    rcases List.mem_cons.1 hx with rfl | hx
    · omega
    · have h2 : softF n (y.toNat + 1) s := by
        show softB _ _ _ = true
        rw [show (((y.toNat + 1 : Nat) : Int) - 1) = y by omega]
        exact h.2.2
      have := ih h2 x hx
      omega
theorem rbytes_l0 (c s : List Int) (hc : c.length ≤ 1000) (hs : s.length ≤ 1000) : ∀ (d i : Nat) (pre soft out : List Int), c.length - i ≤ d → i ≤ c.length → s = pre ++ soft → (∀ x ∈ pre, x < (i : Int)) → softF c.length i soft → out.length ≤ 3 * i →
    Ev (fun k => compositorref13_bytes.l0 k out (i : Int) c s) (out ++ text_Write.put (c.drop i) i soft []) := by
  intro d
  induction d with
  | zero =>
    intro i pre soft out hd hi hps hpre hsf ho
    obtain rfl : i = c.length := by omega
    refine Ev.step (fun k => compositorref13_bytes.l0.eq_2 _ _ _ _ _) ?_
    rw [List.drop_length]
    simp only [if_neg (show ¬ ((c.length : Nat) : Int) < (c.length : Int) by omega), text_Write.put, List.append_nil]
    exact Ev.now _
  | succ d ih =>
    intro i pre soft out hd hi hps hpre hsf ho
    by_cases hlt : i < c.length
    · refine Ev.step (fun k => compositorref13_bytes.l0.eq_2 _ _ _ _ _) ?_
      simp only [if_pos (show (i : Int) < (c.length : Int) by omega)]
      refine rbytes_l1 c s hc hs i hlt _ s.length 0 out (by omega) (by omega) (by omega) ?_
      rw [List.drop_zero, drop_at c i hlt]
      have hp0 : (pre.filter (fun x => decide (x = (i : Int)))).flatMap (fun _ => ([194, 173] : List Int)) = [] := filt_none pre i (fun x hx e => by have := hpre x hx; omega)
      rcases softF_cases hsf with ⟨t, rfl, ht⟩ | ⟨hh, ht⟩
      · have ht0 : (t.filter (fun x => decide (x = (i : Int)))).flatMap (fun _ => ([194, 173] : List Int)) = [] := filt_none t i (fun x hx e => by have := softF_mem ht x hx; omega)
        have e : (s.filter (fun x => decide (x = (i : Int)))).flatMap (fun _ => ([194, 173] : List Int)) = [194, 173] := by
          rw [hps, List.filter_append, List.flatMap_append, hp0, List.nil_append, List.filter_cons]
          simp only [decide_true, if_true, List.flatMap_cons, ht0]
          rfl
        rw [e, put_soft]
        refine Ev.eq (ih (i + 1) (pre ++ [(i : Int)]) t _ (by omega) (by omega) (by rw [hps]; simp) (fun x hx => ?_) ht (by simp; omega)) ?_
        · rcases List.mem_append.1 hx with hx | hx
          · have := hpre x hx; omega
          · rw [List.mem_singleton.1 hx]; omega
        · simp
      · have hs0 : (soft.filter (fun x => decide (x = (i : Int)))).flatMap (fun _ => ([194, 173] : List Int)) = [] := filt_none soft i (fun x hx e => by have := softF_mem ht x hx; omega)
        have e : (s.filter (fun x => decide (x = (i : Int)))).flatMap (fun _ => ([194, 173] : List Int)) = [] := by
          rw [hps, List.filter_append, List.flatMap_append, hp0, hs0]
          rfl
        rw [e, put_plain _ _ i soft hh]
        refine Ev.eq (ih (i + 1) pre soft _ (by omega) (by omega) hps (fun x hx => by have := hpre x hx; omega) ht (by simp; omega)) ?_
        simp
    · obtain rfl : i = c.length := by omega
      refine Ev.step (fun k => compositorref13_bytes.l0.eq_2 _ _ _ _ _) ?_
      rw [List.drop_length]
      simp only [if_neg (show ¬ ((c.length : Nat) : Int) < (c.length : Int) by omega), text_Write.put, List.append_nil]
      exact Ev.now _
theorem rbytes_f {x : S36} (h : okW x = true) : Ev (fun k => compositorref13_bytes.f k x.f0 x.f1) (wb x) := by
  have h1 := okW_iff h
  have h2 := okW_soft h
  have := rbytes_l0 x.f0 x.f1 (by omega) (by omega) x.f0.length 0 [] x.f1 [] (by omega) (by omega) rfl (fun y hy => by cases hy) (by have := h1.1; rwa [Nat.zero_add] at this) (by simp)
  rw [List.drop_zero, List.nil_append] at this
  exact this
theorem rwrite_l0 (l : List S36) (hok : ∀ x ∈ l, okW x = true) (hl : l.length ≤ 1000) : ∀ (d i : Nat) (out : List Int), l.length - i ≤ d → i ≤ l.length → out.length ≤ 200 * i →
    Ev (fun k => compositorref13_Write.l0 k l out (i : Int)) (if i = 0 then (out ++ writeV l, 0) else (out ++ tailV (l.drop i), 0)) := by
  intro d
  induction d with
  | zero =>
    intro i out hd hi ho
    obtain rfl : i = l.length := by omega
    refine Ev.step (fun k => compositorref13_Write.l0.eq_2 _ _ _ _) ?_
    rw [List.drop_length]
    simp only [if_neg (show ¬ ((l.length : Nat) : Int) < (l.length : Int) by omega), tailV, List.append_nil]
    split
    · rename_i h0
      obtain rfl : l = [] := List.length_eq_zero_iff.1 h0
      simp only [writeV, List.append_nil]
      exact Ev.now _
    · exact Ev.now _
  | succ d ih =>
    intro i out hd hi ho
    by_cases hlt : i < l.length
    · have hx := hok l[i] (List.getElem_mem hlt)
      have hwl := wb_len hx
      have hws := okW_soft hx
      have hwc := (okW_iff hx).2.2.2
      refine Ev.step (fun k => compositorref13_Write.l0.eq_2 _ _ _ _) ?_
      simp only [if_pos (show (i : Int) < (l.length : Int) by omega), if_pos (show (0 : Int) ≤ (i : Int) by omega), rd_word l i hlt, wrap_nat i (by omega), Option.bind_some]
      by_cases h0 : i = 0
      · subst h0
        simp only [if_neg (show ¬ ((0 : Nat) : Int) > 0 by omega), if_true]
        refine Ev.bind (rbytes_f hx) ?_
        simp only [if_pos (show out.length + (wb l[0]).length < 140737488355328 by omega)]
        refine Ev.eq (ih 1 _ (by omega) (by omega) (by simp; omega)) ?_
        rw [if_neg (by omega)]
        obtain ⟨y, l', rfl⟩ : ∃ y l', l = y :: l' := by cases l with | nil => simp at hlt | cons y l' => exact ⟨y, l', rfl⟩
        simp [writeV]
      · simp only [if_pos (show (i : Int) > 0 by omega), if_neg h0, if_pos (show out.length < 140737488355328 by omega)]
        refine Ev.bind (rbytes_f hx) ?_
        simp only [if_pos (show (out ++ [32]).length + (wb l[i]).length < 140737488355328 by simp; omega)]
        refine Ev.eq (ih (i + 1) _ (by omega) (by omega) (by simp; omega)) ?_
        rw [if_neg (by omega), drop_at l i hlt, tailV]
        simp
    · obtain rfl : i = l.length := by omega
      refine Ev.step (fun k => compositorref13_Write.l0.eq_2 _ _ _ _) ?_
      rw [List.drop_length]
      simp only [if_neg (show ¬ ((l.length : Nat) : Int) < (l.length : Int) by omega), tailV, List.append_nil]
      split
      · rename_i h0
        obtain rfl : l = [] := List.length_eq_zero_iff.1 h0
        simp only [writeV, List.append_nil]
        exact Ev.now _
      · exact Ev.now _
theorem rwrite_f (l : List S36) (hc : ∀ x ∈ l, x.f0.length < 9223372036854775807) (hs : ∀ x ∈ l, x.f1.length < 9223372036854775807) : Ev (fun k => compositorref13_Write.f k l) (writtenV l) := by
  unfold compositorref13_Write.f writtenV
  refine Ev.bind (rcheck_f l hc hs) ?_
  cases h : okB l with
  | false => simp only [Bool.false_eq_true, if_false]; exact Ev.now _
  | true =>
    simp only [if_true]
    refine Ev.eq (rwrite_l0 l (okB_all h) (by have := okB_iff h; omega) l.length 0 [] (by omega) (by omega) (by simp)) ?_
    simp
/-! ### Same -/
theorem same04_l0 (a : List Int) (ha : a.length < 9223372036854775807) : ∀ (d i : Nat), a.length - i = d → i ≤ a.length → Ev (fun k => compositorref04_Same.l0 k a a (i : Int)) true := by
  intro d
  induction d with
  | zero =>
    intro i hd hi
    refine Ev.step (fun k => compositorref04_Same.l0.eq_2 _ _ _ _) ?_
    simp only [if_neg (show ¬ (i : Int) < (a.length : Int) by omega)]
    exact Ev.now _
  | succ d ih =>
    intro i hd hi
    refine Ev.step (fun k => compositorref04_Same.l0.eq_2 _ _ _ _) ?_
    simp only [if_pos (show (i : Int) < (a.length : Int) by omega), if_pos (show (0 : Int) ≤ (i : Int) by omega), wrap_nat i (by omega)]
    exact ih (i + 1) (by omega) (by omega)
theorem same04 (a : List Int) (ha : a.length < 9223372036854775807) : Ev (fun k => compositorref04_Same.f k a a) true := by
  unfold compositorref04_Same.f
  simp only [if_true]
  exact same04_l0 a ha a.length 0 (by omega) (by omega)
theorem same13_l0 (a : List S36) (ha : a.length < 9223372036854775807) (hx : ∀ x ∈ a, x.f0.length < 9223372036854775807 ∧ x.f1.length < 9223372036854775807) : ∀ (d i : Nat), a.length - i = d → i ≤ a.length → Ev (fun k => compositorref13_Same.l0 k a a (i : Int)) true := by
  intro d
  induction d with
  | zero =>
    intro i hd hi
    refine Ev.step (fun k => compositorref13_Same.l0.eq_2 _ _ _ _) ?_
    simp only [if_neg (show ¬ (i : Int) < (a.length : Int) by omega)]
    exact Ev.now _
  | succ d ih =>
    intro i hd hi
    have hlt : i < a.length := by omega
    have h1 := hx a[i] (List.getElem_mem hlt)
    refine Ev.step (fun k => compositorref13_Same.l0.eq_2 _ _ _ _) ?_
    simp only [if_pos (show (i : Int) < (a.length : Int) by omega), if_pos (show (0 : Int) ≤ (i : Int) by omega), rd_word a i hlt, wrap_nat i (by omega)]
    refine Ev.bind (same04 _ h1.1) ?_
    simp only [if_true]
    refine Ev.bind (same04 _ h1.2) ?_
    simp only [if_true]
    exact ih (i + 1) (by omega) (by omega)
theorem same13 (a : List S36) (ha : a.length < 9223372036854775807) (hx : ∀ x ∈ a, x.f0.length < 9223372036854775807 ∧ x.f1.length < 9223372036854775807) : Ev (fun k => compositorref13_Same.f k a a) true := by
  unfold compositorref13_Same.f
  simp only [if_true]
  exact same13_l0 a ha hx a.length 0 (by omega) (by omega)
theorem same_nil (a : List S36) : Ev (fun k => compositorref13_Same.f k a []) (decide (a.length = 0)) := by
  unfold compositorref13_Same.f
  by_cases h : a.length = 0
  · obtain rfl : a = [] := List.length_eq_zero_iff.1 h
    simp only [if_true]
    exact same13_l0 [] (by simp) (fun x hx => by cases hx) 0 0 rfl (by omega)
  · simp only [if_neg (show ¬ (a.length : Int) = (([] : List S36).length : Int) by simp only [List.length_nil]; omega), h, decide_false]
    exact Ev.now _
/-! ### what is read is small -/
theorem readV_ok {l : List Int} (h : (readV l).2 = 0) : okB (readV l).1 = true ∧ parseAll (text_words_2.all l) = some (readV l).1 := by
  unfold readV at h ⊢
  cases hp : parseAll (text_words_2.all l) with
  | none => rw [hp] at h; simp at h
  | some ws =>
    rw [hp] at h
    simp only at h ⊢
    cases ho : okB ws with
    | false => rw [ho] at h; simp at h
    | true => simp [ho]
theorem readV_cases (l : List Int) : (readV l = ([], 130)) ∨ ((readV l).2 = 0 ∧ okB (readV l).1 = true ∧ parseAll (text_words_2.all l) = some (readV l).1) := by
  by_cases h : (readV l).2 = 0
  · exact .inr ⟨h, readV_ok h⟩
  · refine .inl ?_
    unfold readV at h ⊢
    cases hp : parseAll (text_words_2.all l) with
    | none => rfl
    | some ws =>
      rw [hp] at h
      simp only at h ⊢
      cases ho : okB ws with
      | false => simp
      | true => rw [ho] at h; simp at h
theorem small_of_ok {l : List S36} (h : okB l = true) : l.length ≤ 100 ∧ ∀ x ∈ l, x.f0.length ≤ 60 ∧ x.f1.length ≤ 60 := by
  refine ⟨(okB_iff h).2.1, fun x hx => ?_⟩
  have h1 := okW_iff (okB_all h x hx)
  have h2 := okW_soft (okB_all h x hx)
  omega
theorem readV_small (l : List Int) : (readV l).1.length ≤ 100 ∧ ∀ x ∈ (readV l).1, x.f0.length ≤ 60 ∧ x.f1.length ≤ 60 := by
  rcases readV_cases l with h | ⟨_, h, _⟩
  · rw [h]; exact ⟨Nat.zero_le _, fun x hx => by cases hx⟩
  · exact small_of_ok h
/-- What is read is written with no more bytes. -/
theorem parse_total : ∀ (ps : List (List Int)) (ws : List S36), parseAll ps = some ws → total ws + 2 * softs ws = sumLen ps ∧ ws.length = ps.length := by
  intro ps
  induction ps with
  | nil => intro ws h; simp only [parseAll, Option.some.injEq] at h; rw [← h]; exact ⟨rfl, rfl⟩
  | cons p ps ih =>
    intro ws h
    simp only [parseAll, Option.bind_eq_some_iff, Option.map_eq_some_iff] at h
    obtain ⟨⟨c, s⟩, h1, ws', h2, rfl⟩ := h
    have hl := parse_len p [] [] c s h1
    have hi := ih ws' h2
    simp only [List.length_nil] at hl
    rw [total_cons, softs_cons]
    simp only [sumLen, List.map_cons, List.sum_cons, List.length_cons] at hi ⊢
    omega
theorem rewrite_len {l : List Int} (h : (readV l).2 = 0) : (writeV (readV l).1).length ≤ l.length := by
  obtain ⟨h1, h2⟩ := readV_ok h
  have h3 := write_len _ (okB_all h1) (okB_iff h1).1
  have h4 := parse_total _ _ h2
  have h5 := all_sum l
  omega
end Go.Proofs.Ytanhafkoohnjhaa.L
