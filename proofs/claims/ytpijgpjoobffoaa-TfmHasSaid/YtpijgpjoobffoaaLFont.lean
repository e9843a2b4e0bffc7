/- Whether any font may be: plain; the program's check tells it. -/
import Derived.Test.YtpijgpjoobffoaaLEv
import Derived.Test.YtpijgpjoobffoaaGx9
namespace Go.Proofs.Ytpijgpjoobffoaa.L
open Go.RowKit Go.Proofs.Ytpijgpjoobffoaa.G Go.Proofs.YtpijgpjoobffoaaW.PrintWords
set_option linter.unusedVariables false
set_option linter.unusedSimpArgs false
abbrev Ch := S42
abbrev St := S51
def ofB (n m : Int) : Bool := decide (0 ≤ n) && decide (n < m)
def fixB (n : Int) : Bool := decide (-16777216 ≤ n) && decide (n < 16777216)
def tabB (l : List Int) (a b : Int) : Bool := decide (a ≤ (l.length : Int)) && (decide ((l.length : Int) ≤ b) && (l.all fixB && (decide (a = 0) || decide (rd l 0 = 0))))
def charB (lw lh ld li ls : Int) (x : Ch) : Bool := ((decide (x.f4 = 0) && decide (x.f5 = 0)) || (decide (x.f4 = 1) && ofB x.f5 ls)) && (ofB x.f0 lw && (ofB x.f1 lh && (ofB x.f2 ld && ofB x.f3 li)))
def stepB (s : St) : Bool := ofB s.f0 256 && (ofB s.f1 256 && (ofB s.f2 256 && ofB s.f3 256))
def r2 (cs : List Ch) (ws hs ds is : List Int) (ss : List St) (ks ps : List Int) : Bool := tabB ks 0 256 && (tabB ps 0 30 && (cs.all (charB ws.length hs.length ds.length is.length ss.length) && ss.all stepB))
def r1 (cs : List Ch) (ws hs ds is : List Int) (ss : List St) (ks ps : List Int) : Bool := (tabB ws 1 256 && (tabB hs 1 16 && (tabB ds 1 16 && tabB is 1 64))) && r2 cs ws hs ds is ss ks ps
def headB (a b c : Int) : Bool := ofB a 4294967296 && (decide (1048576 ≤ b) && (decide (b < 2147483648) && ofB c 256))
def sizeB (c : Int) (cs : List Ch) (ss : List St) : Bool := decide (1 ≤ (cs.length : Int)) && (decide ((cs.length : Int) ≤ 256 - c) && decide ((ss.length : Int) ≤ 256))
def fontB (a b c : Int) (cs : List Ch) (ws hs ds is : List Int) (ss : List St) (ks ps : List Int) : Bool := headB a b c && (sizeB c cs ss && r1 cs ws hs ds is ss ks ps)
theorem of_f (n m : Int) : tfm_of.f n m = some (ofB n m) := by
  unfold tfm_of.f ofB
  by_cases h : n ≥ 0
  · rw [if_pos h, decide_eq_true (show 0 ≤ n from h)]; rfl
  · rw [if_neg h, decide_eq_false (show ¬ 0 ≤ n from h)]; rfl
theorem fix_f (n : Int) : tfm_table_1.f n = some (!fixB n) := by
  unfold tfm_table_1.f tfm_fix.f fixB
  by_cases h : n ≥ -16777216
  · rw [if_pos h, decide_eq_true (show -16777216 ≤ n from h)]; rfl
  · rw [if_neg h, decide_eq_false (show ¬ -16777216 ≤ n from h)]; rfl
theorem any_not {α : Type} (l : List α) (p : α → Bool) : (l.any fun x => (some (!p x) == some true)) = !l.all p := by
  rw [Bool.eq_iff_iff]
  simp
theorem tab_f (l : List Int) (a b : Int) (ha : a = 0 ∨ a = 1) : tfm_table.f l a b = some (tabB l a b) := by
  unfold tfm_table.f tfm_table_1_any.f tabB
  simp only [fix_f, Option.isSome_some, List.all_eq_true, implies_true, if_true, any_not]
  by_cases h1 : (l.length : Int) ≥ a
  · rw [if_pos h1, decide_eq_true (show a ≤ (l.length : Int) from h1)]
    by_cases h2 : (l.length : Int) ≤ b
    · rw [if_pos h2, decide_eq_true h2]
      simp only [Option.bind_some, Bool.true_and]
      cases h3 : l.all fixB
      · rfl
      · simp only [Bool.not_true, Bool.false_eq_true, if_false, Bool.true_and]
        rcases ha with rfl | rfl
        · simp
        · rw [if_neg (by decide), if_pos (by omega)]
          simp only [show ¬ (1 : Int) = 0 by decide, decide_false, Bool.false_or]
          congr 1
    · rw [if_neg h2, decide_eq_false h2]; rfl
  · rw [if_neg h1, decide_eq_false (show ¬ a ≤ (l.length : Int) from h1)]; rfl
theorem step_f (s : St) : tfm_Check_2.f s.f0 s.f1 s.f2 s.f3 = some (!stepB s) := by
  unfold tfm_Check_2.f tfm_step.f tfm_step_1_any.f stepB
  have e : ∀ n, tfm_step_1.f n = some (!ofB n 256) := fun n => by unfold tfm_step_1.f; rw [of_f]; rfl
  simp only [e, Option.isSome_some, List.all_eq_true, implies_true, if_true, any_not, Option.bind_some, List.all_cons, List.all_nil, Bool.and_true]
  simp
theorem steps_f (l : List St) : tfm_Check_2_any.f l = some (!l.all stepB) := by
  unfold tfm_Check_2_any.f
  simp only [step_f, Option.isSome_some, List.all_eq_true, implies_true, if_true, any_not]
theorem char_f (k : Nat) (a b c : Int) (cs : List Ch) (ws hs ds is : List Int) (ss : List St) (ks ps : List Int) (x : Ch) :
    tfm_Check_1.f (k + 1) x.f0 x.f1 x.f2 x.f3 x.f4 x.f5 a b c cs ws hs ds is ss ks ps = some (!charB ws.length hs.length ds.length is.length ss.length x) := by
  have J : ∀ t, tfm_char.j0 (k + 1) t a b c cs ws hs ds is ss ks ps x.f0 x.f1 x.f2 x.f3 x.f4 x.f5 = some (t && (ofB x.f0 ws.length && (ofB x.f1 hs.length && (ofB x.f2 ds.length && ofB x.f3 is.length)))) := fun t => by
    cases t
    · rfl
    · simp only [tfm_char.j0, of_f, Option.bind_some, if_true, Bool.true_and]
      cases ofB x.f0 ws.length <;> cases ofB x.f1 hs.length <;> cases ofB x.f2 ds.length <;> rfl
  unfold tfm_Check_1.f tfm_char.f charB
  simp only [J, of_f, Option.bind_some]
  by_cases h4 : x.f4 = 0
  · simp only [if_pos h4, decide_eq_true h4, decide_eq_false (show ¬ x.f4 = 1 by omega), if_neg (show ¬ x.f4 = 1 by omega), Bool.true_and, Bool.false_and, Bool.or_false]
    by_cases h5 : x.f5 = 0
    · simp only [if_pos h5, decide_eq_true h5, Option.bind_some]; rfl
    · simp only [if_neg h5, decide_eq_false h5, Option.bind_some]; rfl
  · simp only [if_neg h4, decide_eq_false h4, Bool.false_and, Bool.false_or]
    by_cases h1 : x.f4 = 1
    · simp only [if_pos h1, decide_eq_true h1, Bool.true_and, Option.bind_some]; try rfl
    · simp only [if_neg h1, decide_eq_false h1, Bool.false_and, Option.bind_some]; try rfl
theorem chars_f (k : Nat) (a b c : Int) (cs : List Ch) (ws hs ds is : List Int) (ss : List St) (ks ps : List Int) (l : List Ch) :
    tfm_Check_1_any.f (k + 1) l a b c cs ws hs ds is ss ks ps = some (!l.all (charB ws.length hs.length ds.length is.length ss.length)) := by
  unfold tfm_Check_1_any.f
  simp only [char_f, Option.isSome_some, List.all_eq_true, implies_true, if_true, any_not]
theorem check_f (k : Nat) (a b c : Int) (cs : List Ch) (ws hs ds is : List Int) (ss : List St) (ks ps : List Int) :
    tfm_Check.f (k + 4) a b c cs ws hs ds is ss ks ps = some (fontB a b c cs ws hs ds is ss ks ps) := by
  have J2 : ∀ t, tfm_Check.j2 (k + 2) t a b c cs ws hs ds is ss ks ps = some (!t && r2 cs ws hs ds is ss ks ps) := fun t => by
    cases t
    · simp only [tfm_Check.j2, tab_f _ 0 _ (.inl rfl), chars_f, steps_f, Option.bind_some, Bool.false_eq_true, if_false, r2, Bool.not_false, Bool.true_and]
      cases tabB ks 0 256 <;> cases tabB ps 0 30 <;> cases (cs.all (charB ws.length hs.length ds.length is.length ss.length)) <;> simp
    · rfl
  have J1 : ∀ t, tfm_Check.j1 (k + 3) t a b c cs ws hs ds is ss ks ps = some (!t && r1 cs ws hs ds is ss ks ps) := fun t => by
    cases t
    · simp only [tfm_Check.j1, tab_f _ 1 _ (.inr rfl), J2, Option.bind_some, Bool.false_eq_true, if_false, r1, Bool.not_false, Bool.true_and]
      cases tabB ws 1 256 <;> cases tabB hs 1 16 <;> cases tabB ds 1 16 <;> cases tabB is 1 64 <;> simp
    · rfl
  have J0 : ∀ t, (t = false → 0 ≤ c ∧ c < 256) → tfm_Check.j0 (k + 4) t a b c cs ws hs ds is ss ks ps = some (!t && (sizeB c cs ss && r1 cs ws hs ds is ss ks ps)) := fun t ht => by
    cases t
    · have hc := ht rfl
      have e : wrap64 (256 - c) = 256 - c := wrap_in (by omega) (by omega)
      simp only [tfm_Check.j0, J1, e, sizeB, Bool.false_eq_true, if_false, Bool.not_false, Bool.true_and]
      clear e
      by_cases h1 : (cs.length : Int) < 1
      · rw [if_pos h1, decide_eq_false (show ¬ 1 ≤ (cs.length : Int) by omega)]; rfl
      · rw [if_neg h1, decide_eq_true (show 1 ≤ (cs.length : Int) by omega)]
        by_cases h2 : (cs.length : Int) > 256 - c
        · rw [if_pos h2, decide_eq_false (show ¬ (cs.length : Int) ≤ 256 - c by omega)]; rfl
        · rw [if_neg h2, decide_eq_true (show (cs.length : Int) ≤ 256 - c by omega)]
          by_cases h3 : (ss.length : Int) > 256
          · rw [decide_eq_true h3, decide_eq_false (show ¬ (ss.length : Int) ≤ 256 by omega)]; rfl
          · rw [decide_eq_false h3, decide_eq_true (show (ss.length : Int) ≤ 256 by omega)]; rfl
    · rfl
  unfold tfm_Check.f fontB headB
  simp only [of_f, Option.bind_some]
  cases h1 : ofB a 4294967296
  · simp only [Bool.false_eq_true, if_false, Bool.false_and]
    rw [J0 true (by simp)]; rfl
  · simp only [if_true, Bool.true_and]
    by_cases h2 : b < 1048576
    · rw [if_pos h2, J0 true (by simp), decide_eq_false (show ¬ 1048576 ≤ b by omega)]; rfl
    · rw [if_neg h2, decide_eq_true (show 1048576 ≤ b by omega)]
      by_cases h3 : b ≥ 2147483648
      · rw [if_pos h3, J0 true (by simp), decide_eq_false (show ¬ b < 2147483648 by omega)]; rfl
      · rw [if_neg h3, decide_eq_true (show b < 2147483648 by omega)]
        cases h4 : ofB c 256
        · rw [J0 _ (by simp)]; rfl
        · rw [J0 _ (fun _ => by simp only [ofB, Bool.and_eq_true, decide_eq_true_eq] at h4; exact h4)]; rfl
theorem check_ev (a b c : Int) (cs : List Ch) (ws hs ds is : List Int) (ss : List St) (ks ps : List Int) :
    Ev (fun k => tfm_Check.f k a b c cs ws hs ds is ss ks ps) (fontB a b c cs ws hs ds is ss ks ps) := by
  refine ⟨4, fun k hk => ?_⟩
  obtain ⟨m, rfl⟩ : ∃ m, k = m + 4 := ⟨k - 4, by omega⟩
  exact check_f m a b c cs ws hs ds is ss ks ps
def hasB (a b c : Int) (cs : List Ch) (ws hs ds is : List Int) (ss : List St) (ks ps : List Int) (n : Int) : Bool :=
  fontB a b c cs ws hs ds is ss ks ps && (decide (c ≤ n) && (decide (n < c + (cs.length : Int)) && decide (0 < (rd_T42 cs (n - c)).f0)))
theorem font_in {a b c : Int} {cs : List Ch} {ws hs ds is : List Int} {ss : List St} {ks ps : List Int} (h : fontB a b c cs ws hs ds is ss ks ps = true) :
    (0 ≤ a ∧ a < 4294967296) ∧ (1048576 ≤ b ∧ b < 2147483648) ∧ (0 ≤ c ∧ c < 256) ∧ (1 ≤ (cs.length : Int) ∧ (cs.length : Int) ≤ 256 - c ∧ (ss.length : Int) ≤ 256) ∧ (tabB ws 1 256 = true ∧ tabB hs 1 16 = true ∧ tabB ds 1 16 = true ∧ tabB is 1 64 = true) ∧ tabB ks 0 256 = true ∧ tabB ps 0 30 = true ∧ (∀ x ∈ cs, charB ws.length hs.length ds.length is.length ss.length x = true) ∧ (∀ s ∈ ss, stepB s = true) := by
  simp only [fontB, headB, sizeB, r1, r2, ofB, Bool.and_eq_true, decide_eq_true_eq, List.all_eq_true] at h
  obtain ⟨⟨h1, h2, h3, h4⟩, ⟨h5, h6, h7⟩, ⟨h8, h9, h10, h11⟩, h12, h13, h14, h15⟩ := h
  exact ⟨h1, ⟨h2, h3⟩, h4, ⟨h5, h6, h7⟩, ⟨h8, h9, h10, h11⟩, h12, h13, h14, h15⟩
theorem has_ev (a b c : Int) (cs : List Ch) (ws hs ds is : List Int) (ss : List St) (ks ps : List Int) (n : Int) :
    Ev (fun k => tfm_Has.f k a b c cs ws hs ds is ss ks ps n) (hasB a b c cs ws hs ds is ss ks ps n) := by
  unfold tfm_Has.f hasB
  refine Ev.bind (check_ev a b c cs ws hs ds is ss ks ps) ?_
  cases h : fontB a b c cs ws hs ds is ss ks ps
  · exact Ev.now _
  · have hf := font_in h
    have hc := hf.2.2.1
    have hs := hf.2.2.2.1
    clear hf
    simp only [if_true, Bool.true_and]
    by_cases h1 : n ≥ c
    · have e1 : wrap64 (c + (cs.length : Int)) = c + (cs.length : Int) := wrap_in (by omega) (by omega)
      simp only [if_pos h1, decide_eq_true (show c ≤ n from h1), e1, Bool.true_and]
      clear e1
      by_cases h2 : n < c + (cs.length : Int)
      · have e2 : wrap64 (n - c) = n - c := wrap_in (by omega) (by omega)
        simp only [if_pos h2, decide_eq_true h2, e2, Bool.true_and]
        clear e2
        simp only [if_pos (show 0 ≤ n - c by omega), if_pos (show n - c < (cs.length : Int) by omega)]
        exact Ev.now _
      · simp only [if_neg h2, decide_eq_false h2, Bool.false_and]
        exact Ev.now _
    · simp only [if_neg h1, decide_eq_false (show ¬ c ≤ n from h1), Bool.false_and]
      exact Ev.now _
end Go.Proofs.Ytpijgpjoobffoaa.L
