/- The reference's reading of a text is the program's. -/
import Derived.Test.YtanhafkoohnjhaaLTxt
namespace Go.Proofs.Ytanhafkoohnjhaa.L
open Go.RowKit Go.Proofs.Ytanhafkoohnjhaa.G Go.Proofs.YtanhafkoohnjhaaW.PrintWords
set_option linter.unusedVariables false
set_option linter.unusedSimpArgs false
def refParse : List Int → List Int → List Int → List Int × List Int
  | [], c, s => (c, s)
  | [b], c, s => (c ++ [b], s)
  | b :: b2 :: l, c, s => if b = 194 ∧ b2 = 173 then refParse l c (s ++ [(c.length : Int)]) else refParse (b2 :: l) (c ++ [b]) s
theorem ref_some : ∀ (l c s : List Int) (r : List Int × List Int), parse l c s = some r → refParse l c s = r
  | [], c, s, r, h => by simp only [parse, Option.some.injEq] at h; rw [← h]; rfl
  | [b], c, s, r, h => by
    rw [parse] at h
    split at h
    · cases h
    · rw [refParse]; exact Option.some.inj h
  | b :: b2 :: l, c, s, r, h => by
    rw [parse] at h
    rw [refParse]
    by_cases h1 : b = 194
    · rw [if_pos h1] at h
      by_cases h2 : b2 = 173
      · rw [if_pos h2] at h
        rw [if_pos ⟨h1, h2⟩]
        exact ref_some l c _ r h
      · rw [if_neg h2] at h; cases h
    · rw [if_neg h1] at h
      rw [if_neg (fun e => h1 e.1)]
      exact ref_some (b2 :: l) _ s r h
theorem ref_keeps : ∀ (l c s : List Int) (x : Int), x ∈ c → x ∈ (refParse l c s).1
  | [], c, s, x, h => h
  | [b], c, s, x, h => by rw [refParse]; exact List.mem_append_left _ h
  | b :: b2 :: l, c, s, x, h => by
    rw [refParse]
    split
    · exact ref_keeps l c _ x h
    · exact ref_keeps (b2 :: l) _ s x (List.mem_append_left _ h)
theorem ref_none : ∀ (l c s : List Int), parse l c s = none → (194 : Int) ∈ (refParse l c s).1
  | [], c, s, h => by simp [parse] at h
  | [b], c, s, h => by
    rw [parse] at h
    by_cases h1 : b = 194
    · rw [refParse, h1]; simp
    · rw [if_neg h1] at h; cases h
  | b :: b2 :: l, c, s, h => by
    rw [parse] at h
    rw [refParse]
    by_cases h1 : b = 194
    · rw [if_pos h1] at h
      by_cases h2 : b2 = 173
      · rw [if_pos h2] at h
        rw [if_pos ⟨h1, h2⟩]
        exact ref_none l c _ h
      · rw [if_neg (fun e => h2 e.2)]
        exact ref_keeps (b2 :: l) _ s 194 (by rw [h1]; simp)
    · rw [if_neg h1] at h
      rw [if_neg (fun e => h1 e.1)]
      exact ref_none (b2 :: l) _ s h
theorem ref_len : ∀ (l c s : List Int), (refParse l c s).1.length ≤ c.length + l.length ∧ (refParse l c s).2.length ≤ s.length + l.length
  | [], c, s => ⟨Nat.le_refl _, Nat.le_refl _⟩
  | [b], c, s => by rw [refParse]; simp
  | b :: b2 :: l, c, s => by
    rw [refParse]
    split
    · have := ref_len l c (s ++ [(c.length : Int)])
      simp only [List.length_append, List.length_cons, List.length_nil] at this ⊢
      omega
    · have := ref_len (b2 :: l) (c ++ [b]) s
      simp only [List.length_append, List.length_cons, List.length_nil] at this ⊢
      omega
theorem of_l0 (x0 : List Int) (hb : Bytes x0) (hx : x0.length ≤ 1000000) : ∀ (d i : Nat) (c s : List Int), x0.length - i ≤ d → i ≤ x0.length → c.length ≤ i → s.length ≤ i →
    Ev (fun k => compositorref13_of.l0 k x0 (i : Int) c s) ((refParse (x0.drop i) c s).1, (refParse (x0.drop i) c s).2, wordB (refParse (x0.drop i) c s).1 (refParse (x0.drop i) c s).2) := by
  intro d
  induction d with
  | zero =>
    intro i c s hd hi hc hs
    obtain rfl : i = x0.length := by omega
    refine Ev.step (fun k => compositorref13_of.l0.eq_2 _ _ _ _ _) ?_
    rw [List.drop_length]
    simp only [if_neg (show ¬ ((x0.length : Nat) : Int) < (x0.length : Int) by omega), refParse]
    refine Ev.bind (rword_f c s (by omega) (by omega)) ?_
    exact Ev.now _
  | succ d ih =>
    intro i c s hd hi hc hs
    by_cases hlt : i < x0.length
    · refine Ev.step (fun k => compositorref13_of.l0.eq_2 _ _ _ _ _) ?_
      have hbi := hb x0[i] (List.getElem_mem hlt)
      have e1 : wrap64 x0[i] = x0[i] := wrap_in (by omega) (by omega)
      simp only [rd_nat x0 i hlt, wrap_nat i (by omega), if_pos (show (i : Int) < (x0.length : Int) by omega), if_pos (show (0 : Int) ≤ (i : Int) by omega), if_pos (show (0 : Int) ≤ ((i + 1 : Nat) : Int) by omega), if_pos (show c.length < 17592186044416 by omega), if_pos (show s.length < 17592186044416 by omega), e1]
      have plain : ((x0[i] = 194 ∧ ∃ h : i + 1 < x0.length, x0[i + 1] = 173) → False) → Ev (fun k => compositorref13_of.l0 k x0 ((i + 1 : Nat) : Int) (c ++ [x0[i]]) s) ((refParse (x0.drop i) c s).1, (refParse (x0.drop i) c s).2, wordB (refParse (x0.drop i) c s).1 (refParse (x0.drop i) c s).2) := by
        intro hno
        have e : refParse (x0.drop i) c s = refParse (x0.drop (i + 1)) (c ++ [x0[i]]) s := by
          rw [drop_at x0 i hlt]
          by_cases h2 : i + 1 < x0.length
          · rw [drop_at x0 (i + 1) h2, refParse, if_neg (fun h => hno ⟨h.1, h2, h.2⟩)]
          · rw [List.drop_of_length_le (by omega), refParse, refParse]
        rw [e]
        exact ih (i + 1) _ s (by omega) (by omega) (by simp; omega) (by omega)
      by_cases h1 : x0[i] = 194
      · simp only [if_pos h1]
        by_cases h2 : i + 1 < x0.length
        · simp only [if_pos (show ((i + 1 : Nat) : Int) < (x0.length : Int) by omega), rd_nat x0 (i + 1) h2]
          by_cases h3 : x0[i + 1] = 173
          · simp only [if_pos h3, wrap_nat (i + 1) (by omega)]
            have e : refParse (x0.drop i) c s = refParse (x0.drop (i + 1 + 1)) c (s ++ [(c.length : Int)]) := by
              rw [drop_at x0 i hlt, drop_at x0 (i + 1) h2, refParse, if_pos ⟨h1, h3⟩]
            rw [e]
            exact ih (i + 1 + 1) c _ (by omega) (by omega) (by omega) (by simp; omega)
          · simp only [if_neg h3]
            exact plain (fun h => h3 h.2.2)
        · simp only [if_neg (show ¬ ((i + 1 : Nat) : Int) < (x0.length : Int) by omega)]
          exact plain (fun h => h2 h.2.1)
      · simp only [if_neg h1]
        exact plain (fun h => h1 h.1)
    · obtain rfl : i = x0.length := by omega
      refine Ev.step (fun k => compositorref13_of.l0.eq_2 _ _ _ _ _) ?_
      rw [List.drop_length]
      simp only [if_neg (show ¬ ((x0.length : Nat) : Int) < (x0.length : Int) by omega), refParse]
      refine Ev.bind (rword_f c s (by omega) (by omega)) ?_
      exact Ev.now _
theorem of_f (p : List Int) (hb : Bytes p) (hp : p.length ≤ 1000000) : Ev (fun k => compositorref13_of.f k p) ((refParse p [] []).1, (refParse p [] []).2, wordB (refParse p [] []).1 (refParse p [] []).2) := by
  have := of_l0 p hb hp p.length 0 [] [] (by omega) (by omega) (by simp) (by simp)
  rw [List.drop_zero] at this
  exact this
def rV (acc : List S36) : List (List Int) → List S36 × Int
  | [] => if okB acc = true then (acc, 0) else ([], 130)
  | p :: ps => if wordB (refParse p [] []).1 (refParse p [] []).2 = true then rV (acc ++ [⟨(refParse p [] []).1, (refParse p [] []).2⟩]) ps else ([], 130)
theorem okB_no {l : List S36} {x : S36} (hx : x ∈ l) (h : okW x = false) : okB l = false := by
  cases ho : okB l with
  | false => rfl
  | true => have := (okB_iff ho).2.2.1 x hx; unfold okW at h; rw [this] at h; cases h
theorem rV_eq : ∀ (ps : List (List Int)) (acc : List S36), rV acc ps = match parseAll ps with | none => ([], 130) | some ws => if okB (acc ++ ws) = true then (acc ++ ws, 0) else ([], 130) := by
  intro ps
  induction ps with
  | nil => intro acc; simp [rV, parseAll]
  | cons p ps ih =>
    intro acc
    rw [rV, parseAll]
    cases hp : parse p [] [] with
    | none =>
      have hbad : wordB (refParse p [] []).1 (refParse p [] []).2 = false := by
        have h1 := ref_none p [] [] hp
        have h2 : (refParse p [] []).1.all codeB = false := by
          rw [List.all_eq_false]
          exact ⟨194, h1, by decide⟩
        simp [wordB, h2]
      rw [if_neg (by rw [hbad]; decide)]
      rfl
    | some r =>
      rw [ref_some p [] [] r hp, Option.bind_some]
      cases hw : wordB r.1 r.2 with
      | true =>
        rw [if_pos rfl, ih]
        cases parseAll ps with
        | none => rfl
        | some ws => simp
      | false =>
        rw [if_neg (by decide)]
        cases parseAll ps with
        | none => rfl
        | some ws =>
          have : okB (acc ++ (⟨r.1, r.2⟩ : S36) :: ws) = false := okB_no (x := ⟨r.1, r.2⟩) (by simp) (by unfold okW; exact hw)
          simp only [Option.map_some, this]
          rfl
theorem readV_rV (l : List Int) : rV [] (text_words_2.all l) = readV l := by
  rw [rV_eq]
  unfold readV
  cases parseAll (text_words_2.all l) with
  | none => rfl
  | some ws => simp only [List.nil_append]
theorem rread (x0 : List Int) (hb : Bytes x0) (hx : x0.length ≤ 1000000) : ∀ (d i : Nat) (acc : List S36), x0.length - i ≤ d → i ≤ x0.length → acc.length ≤ i → (∀ x ∈ acc, x.f0.length ≤ 1000000 ∧ x.f1.length ≤ 1000000) →
    Ev (fun k => compositorref13_Read.l0 k x0 acc (i : Int)) (rV acc (text_words_2.all (x0.drop i))) := by
  intro d
  induction d with
  | zero =>
    intro i acc hd hi ha hs
    obtain rfl : i = x0.length := by omega
    refine Ev.step (fun k => compositorref13_Read.l0.eq_2 _ _ _ _) ?_
    rw [List.drop_length]
    simp only [if_neg (show ¬ ((x0.length : Nat) : Int) < (x0.length : Int) by omega)]
    refine Ev.bind (rcheck_f acc (fun x h => by have := hs x h; omega) (fun x h => by have := hs x h; omega)) ?_
    show Ev _ (if okB acc = true then (acc, 0) else ([], 130))
    cases okB acc with
    | true => simp only [if_true]; exact Ev.now _
    | false => simp only [Bool.false_eq_true, if_false]; exact Ev.now _
  | succ d ih =>
    intro i acc hd hi ha hs
    rcases fall (x0.drop i) with h0 | ⟨g, l', h0, hg⟩ | ⟨p, l', h0, hp, hn, hl⟩
    · have : x0.length ≤ i := by rw [List.drop_eq_nil_iff] at h0; exact h0
      obtain rfl : i = x0.length := by omega
      refine Ev.step (fun k => compositorref13_Read.l0.eq_2 _ _ _ _) ?_
      rw [List.drop_length]
      simp only [if_neg (show ¬ ((x0.length : Nat) : Int) < (x0.length : Int) by omega)]
      refine Ev.bind (rcheck_f acc (fun x h => by have := hs x h; omega) (fun x h => by have := hs x h; omega)) ?_
      show Ev _ (if okB acc = true then (acc, 0) else ([], 130))
      cases okB acc with
      | true => simp only [if_true]; exact Ev.now _
      | false => simp only [Bool.false_eq_true, if_false]; exact Ev.now _
    · have hlt : i < x0.length := by
        have := congrArg List.length h0
        simp only [List.length_drop, List.length_cons] at this
        omega
      rw [drop_at x0 i hlt] at h0
      obtain ⟨h1, h2⟩ := List.cons.inj h0
      refine Ev.step (fun k => compositorref13_Read.l0.eq_2 _ _ _ _) ?_
      simp only [rd_nat x0 i hlt, wrap_nat i (by omega), if_pos (show (i : Int) < (x0.length : Int) by omega), if_pos (show (0 : Int) ≤ (i : Int) by omega), rgap_f, Option.bind_some, h1, hg, if_true]
      rw [drop_at x0 i hlt, h1, all_gap hg]
      exact ih (i + 1) acc (by omega) (by omega) (by omega) hs
    · have hpl : 0 < p.length := List.length_pos_iff.2 hp
      have hlen : i + p.length ≤ x0.length := by
        have := congrArg List.length h0
        simp only [List.length_drop, List.length_append] at this
        omega
      have hlt : i < x0.length := by omega
      have hat : ∀ (j : Nat) (hj : j < p.length), x0[i + j]'(by omega) = p[j] := by
        intro j hj
        have h1 : (x0.drop i)[j]'(by rw [List.length_drop]; omega) = x0[i + j]'(by omega) := List.getElem_drop ..
        rw [← h1]
        have : (x0.drop i)[j]'(by rw [List.length_drop]; omega) = (p ++ l')[j]'(by simp; omega) := by congr 1
        rw [this, List.getElem_append_left hj]
      have hl' : l' = x0.drop (i + p.length) := by
        rw [← List.drop_drop, h0, List.drop_left']
        rfl
      have hcut : (x0.take (i + p.length)).drop i = p := by
        rw [List.drop_take, h0, show i + p.length - i = p.length by omega, List.take_left']
        rfl
      have hpb : Bytes p := fun b hbm => hb b (List.mem_of_mem_drop (i := i) (by rw [h0]; exact List.mem_append_left _ hbm))
      have hps : p.length ≤ 1000000 := by omega
      have hrl := ref_len p [] []
      simp only [List.length_nil, Nat.zero_add] at hrl
      -- what is done with a piece
      have done : Ev (fun k => (compositorref13_of.f k p).bind fun bt => (if bt.2.2 = true then (if acc.length < 2932031007402 then compositorref13_Read.l0 k x0 (acc ++ [(⟨bt.1, bt.2.1⟩ : S36)]) ((i + p.length : Nat) : Int) else none) else some (([] : List S36), 130))) (rV acc (text_words_2.all (x0.drop i))) := by
        refine Ev.bind (of_f p hpb hps) ?_
        rw [h0, all_word p l' hp hn hl, rV]
        cases wordB (refParse p [] []).1 (refParse p [] []).2 with
        | false => simp only [Bool.false_eq_true, if_false]; exact Ev.now _
        | true =>
          simp only [if_true, if_pos (show acc.length < 2932031007402 by omega)]
          rw [hl']
          refine ih (i + p.length) _ (by omega) (by omega) (by simp; omega) (fun x hx => ?_)
          rcases List.mem_append.1 hx with hx | hx
          · exact hs x hx
          · rw [List.mem_singleton.1 hx]
            exact ⟨by show (refParse p [] []).1.length ≤ _; omega, by show (refParse p [] []).2.length ≤ _; omega⟩
      have l1 : ∀ (q e : Nat), p.length - e ≤ q → e ≤ p.length → Ev (fun k => compositorref13_Read.l1 k x0 acc (i : Int) ((i + e : Nat) : Int)) (rV acc (text_words_2.all (x0.drop i))) := by
        intro q
        induction q with
        | zero =>
          intro e hq he
          obtain rfl : e = p.length := by omega
          refine Ev.step (fun k => compositorref13_Read.l1.eq_2 _ _ _ _ _) ?_
          simp only [Int.toNat_natCast, hcut, if_pos (show (0 : Int) ≤ (i : Int) by omega), if_pos (show (i : Int) ≤ ((i + p.length : Nat) : Int) by omega), if_pos (show ((i + p.length : Nat) : Int) ≤ (x0.length : Int) by omega), if_pos (show (0 : Int) ≤ ((i + p.length : Nat) : Int) by omega)]
          rcases hl with rfl | ⟨g, l'', rfl, hg⟩
          · have : x0.length ≤ i + p.length := by rw [eq_comm, List.drop_eq_nil_iff] at hl'; exact hl'
            simp only [if_neg (show ¬ ((i + p.length : Nat) : Int) < (x0.length : Int) by omega)]
            exact done
          · have hlt2 : i + p.length < x0.length := by
              have := congrArg List.length hl'
              simp only [List.length_drop, List.length_cons] at this
              omega
            rw [drop_at x0 _ hlt2] at hl'
            have hge := (List.cons.inj hl').1
            simp only [if_pos (show ((i + p.length : Nat) : Int) < (x0.length : Int) by omega), rd_nat x0 _ hlt2, rgap_f, Option.bind_some, ← hge, hg, if_true]
            exact done
        | succ q ih2 =>
          intro e hq he
          by_cases hlt3 : e < p.length
          · refine Ev.step (fun k => compositorref13_Read.l1.eq_2 _ _ _ _ _) ?_
            have hnb : gapB (x0[i + e]'(by omega)) = false := by rw [hat e hlt3]; exact hn _ (List.getElem_mem hlt3)
            simp only [if_pos (show ((i + e : Nat) : Int) < (x0.length : Int) by omega), if_pos (show (0 : Int) ≤ ((i + e : Nat) : Int) by omega), rd_nat x0 (i + e) (by omega), rgap_f, Option.bind_some, hnb, Bool.false_eq_true, if_false, wrap_nat (i + e) (by omega)]
            exact ih2 (e + 1) (by omega) (by omega)
          · obtain rfl : e = p.length := by omega
            refine Ev.step (fun k => compositorref13_Read.l1.eq_2 _ _ _ _ _) ?_
            simp only [Int.toNat_natCast, hcut, if_pos (show (0 : Int) ≤ (i : Int) by omega), if_pos (show (i : Int) ≤ ((i + p.length : Nat) : Int) by omega), if_pos (show ((i + p.length : Nat) : Int) ≤ (x0.length : Int) by omega), if_pos (show (0 : Int) ≤ ((i + p.length : Nat) : Int) by omega)]
            rcases hl with rfl | ⟨g, l'', rfl, hg⟩
            · have : x0.length ≤ i + p.length := by rw [eq_comm, List.drop_eq_nil_iff] at hl'; exact hl'
              simp only [if_neg (show ¬ ((i + p.length : Nat) : Int) < (x0.length : Int) by omega)]
              exact done
            · have hlt2 : i + p.length < x0.length := by
                have := congrArg List.length hl'
                simp only [List.length_drop, List.length_cons] at this
                omega
              rw [drop_at x0 _ hlt2] at hl'
              have hge := (List.cons.inj hl').1
              simp only [if_pos (show ((i + p.length : Nat) : Int) < (x0.length : Int) by omega), rd_nat x0 _ hlt2, rgap_f, Option.bind_some, ← hge, hg, if_true]
              exact done
      refine Ev.step (fun k => compositorref13_Read.l0.eq_2 _ _ _ _) ?_
      have hng : gapB x0[i] = false := by
        have := hat 0 hpl
        simp only [Nat.add_zero] at this
        rw [this]
        exact hn _ (List.getElem_mem hpl)
      simp only [rd_nat x0 i hlt, if_pos (show (i : Int) < (x0.length : Int) by omega), if_pos (show (0 : Int) ≤ (i : Int) by omega), rgap_f, Option.bind_some, hng, Bool.false_eq_true, if_false]
      exact l1 p.length 0 (by omega) (by omega)
theorem rread_f (l : List Int) (hb : Bytes l) (hl : l.length ≤ 1000000) : Ev (fun k => compositorref13_Read.f k l) (readV l) := by
  have := rread l hb hl l.length 0 [] (by omega) (by omega) (by simp) (fun x hx => by cases hx)
  rw [List.drop_zero, readV_rV] at this
  exact this
end Go.Proofs.Ytanhafkoohnjhaa.L
