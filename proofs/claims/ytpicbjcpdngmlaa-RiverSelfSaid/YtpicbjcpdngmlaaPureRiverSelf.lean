/- Each gap of a row whose items rise, that is not empty, lies over itself alone; without gaps there are none (at most two hundred items). -/
import Derived.Test.YtpicbjcpdngmlaaLRRef
import Derived.Test.YtpicbjcpdngmlaaLAwake
import Derived.Test.YtpicbjcpdngmlaaGStRiverSelf
namespace Go.Proofs.Ytpicbjcpdngmlaa.Pure
open Go.RowKit Go.Proofs.Ytpicbjcpdngmlaa.G Go.Proofs.Ytpicbjcpdngmlaa.L Go.Proofs.YtpicbjcpdngmlaaW.PrintWords Go.Proofs.YtpicbjcpdngmlaaW.PrintLast Go.Proofs.YtpicbjcpdngmlaaW.PrintMore
set_option linter.unusedVariables false
set_option linter.unusedSimpArgs false
def its : List Int → List Int → Int → List I33
  | c :: l, v :: w, e => ⟨if Int.tmod c 2 = 0 then 32 else 97, e⟩ :: its l w (e + v)
  | _, _, _ => []
def endp : List Int → List Int → Int → Int
  | _ :: l, v :: w, e => endp l w (e + v)
  | _, _, e => e
def num : List Int → List Int → Nat
  | c :: l, v :: w => (if Int.tmod c 2 = 0 ∧ v > 0 then 1 else 0) + num l w
  | _, _ => 0
theorem its_len : ∀ (l w : List Int) (e : Int), (its l w e).length ≤ l.length
  | [], w, e => by simp [its]
  | c :: l, [], e => by simp [its]
  | c :: l, v :: w, e => by
    rw [its, List.length_cons, List.length_cons]
    have := its_len l w (e + v)
    omega
theorem nxt_its : ∀ (l w : List Int) (e : Int), nxt (its l w e) (endp l w e) = e
  | [], w, e => rfl
  | c :: l, [], e => rfl
  | c :: l, v :: w, e => rfl
theorem self_main : ∀ (l w : List Int) (e : Int), (∀ v ∈ w, 0 ≤ v) → (∀ g ∈ fwd (its l w e) (endp l w e), e ≤ g.1) ∧ cnt (fwd (its l w e) (endp l w e)) (fwd (its l w e) (endp l w e)) = num l w
  | [], w, e, _ => ⟨fun g hg => by simp [its, fwd] at hg, rfl⟩
  | c :: l, [], e, _ => ⟨fun g hg => by simp [its, fwd] at hg, rfl⟩
  | c :: l, v :: w, e, hw => by
    have hv := hw v (by simp)
    obtain ⟨h1, h2⟩ := self_main l w (e + v) (fun x hx => hw x (by simp [hx]))
    rw [its, endp, fwd, nxt_its, num]
    by_cases hc : Int.tmod c 2 = 0
    · simp only [if_pos hc, if_true, List.singleton_append]
      have z : (fwd (its l w (e + v)) (endp l w (e + v))).countP (ov (e, e + v)) = 0 := by
        rw [List.countP_eq_zero]
        intro y hy
        have := h1 y hy
        unfold ov
        simp only [decide_eq_true_eq]
        omega
      refine ⟨fun g hg => ?_, ?_⟩
      · rcases List.mem_cons.1 hg with rfl | hg
        · exact Int.le_refl _
        · have := h1 g hg; omega
      · rw [cnt_cons, cnt_snd_cons, List.countP_cons, z, h2]
        by_cases hp : v > 0
        · have : ov (e, e + v) (e, e + v) = true := by unfold ov; simp only [decide_eq_true_eq]; omega
          simp only [this, if_true, if_pos (show (Int.tmod c 2 = 0 ∧ v > 0) from ⟨hc, hp⟩)]
          omega
        · have : ov (e, e + v) (e, e + v) = false := by unfold ov; simp only [decide_eq_false_iff_not]; omega
          simp only [this, Bool.false_eq_true, if_false, if_neg (show ¬ (True ∧ v > 0) from fun h => hp h.2), if_neg (show ¬ (Int.tmod c 2 = 0 ∧ v > 0) from fun h => hp h.2)]
          omega
    · simp only [if_neg hc, if_neg (show ¬ (97 : Int) = 32 by decide), if_neg (show ¬ (Int.tmod c 2 = 0 ∧ v > 0) from fun h => hc h.1), if_neg (show ¬ (False ∧ v > 0) from fun h => h.1.elim), List.nil_append, Nat.zero_add]
      exact ⟨fun g hg => by have := h1 g hg; omega, h2⟩
theorem self_l0 (l w : List Int) (hl : l.length ≤ 200) (hw : l.length ≤ w.length) (hr : ∀ v ∈ w, 0 ≤ v ∧ v ≤ 255) : ∀ (d i n : Nat) (e : Int) (o : List I33), l.length - i ≤ d → i ≤ l.length → n ≤ i → 0 ≤ e → e ≤ 255 * i → o.length = i →
    o ++ its (l.drop i) (w.drop i) e = its l w 0 → endp (l.drop i) (w.drop i) e = endp l w 0 → n + num (l.drop i) (w.drop i) = num l w →
    Ev (fun k => compositorlaw20_RiverSelf.l0 k l w true (n : Int) (i : Int) 0 0 e 0 o) true := by
  intro d
  have done : ∀ (i n : Nat) (e : Int) (o : List I33), i = l.length → n ≤ i → o.length = i → o ++ its (l.drop i) (w.drop i) e = its l w 0 → endp (l.drop i) (w.drop i) e = endp l w 0 → n + num (l.drop i) (w.drop i) = num l w →
      Ev (fun k => compositorlaw20_RiverSelf.l0 k l w true (n : Int) (i : Int) 0 0 e 0 o) true := by
    intro i n e o hi hn hol ho he hnn
    subst hi
    rw [List.drop_length] at ho he hnn
    have ho' : o = its l w 0 := by rw [← ho]; simp [its]
    have he' : e = endp l w 0 := he
    have hn' : n = num l w := by rw [← hnn]; simp [num]
    refine Ev.step (fun k => compositorlaw20_RiverSelf.l0.eq_2 _ _ _ _ _ _ _ _ _ _ _) ?_
    simp only [if_neg (show ¬ ((l.length : Nat) : Int) < (l.length : Int) by omega), Option.bind_some, if_true]
    rw [ho', he', hn']
    have hil := its_len l w 0
    rw [count_f _ _ _ _ _ _ _ _ _ _ (by omega) (by omega), (self_main l w 0 (fun v hv => (hr v hv).1)).2]
    simp only [Option.bind_some, if_true]
    rw [count_f _ _ _ _ _ _ _ _ _ _ (by omega) (by simp)]
    have z : fwd [(⟨97, 0⟩ : I33)] (endp l w 0) = [] := rfl
    rw [z, cnt_snd_nil]
    simp only [Option.bind_some, Int.natCast_zero, if_true]
    refine Ev.bind (gaps_f 0 0 (endp l w 0) 0 [(⟨97, 0⟩ : I33)] (by simp)) ?_
    rw [z]
    exact Ev.now _
  induction d with
  | zero => intro i n e o hd hi hn h0 h1 hol ho he hnn; exact done i n e o (by omega) hn hol ho he hnn
  | succ d ih =>
    intro i n e o hd hi hn h0 h1 hol ho he hnn
    by_cases hlt : i < l.length
    · have hwi : i < w.length := by omega
      have hv := hr w[i] (List.getElem_mem hwi)
      rw [drop_at l i hlt, drop_at w i hwi] at ho he hnn
      rw [its] at ho
      rw [endp] at he
      rw [num] at hnn
      refine Ev.step (fun k => compositorlaw20_RiverSelf.l0.eq_2 _ _ _ _ _ _ _ _ _ _ _) ?_
      simp only [if_pos (show (i : Int) < (l.length : Int) by omega), if_pos (show (0 : Int) ≤ (i : Int) by omega), rd_nat l i hlt, rd_nat w i hwi, if_pos (show (i : Int) < (w.length : Int) by omega), wrap_nat i (by omega), wrap_nat n (by omega), if_pos (show o.length < 8796093022208 by omega), wrap_in (n := w[i]) (by omega) (by omega), wrap_in (n := e + w[i]) (by omega) (by omega)]
      by_cases hc : Int.tmod l[i] 2 = 0
      · simp only [if_pos hc] at ho ⊢
        by_cases hp : w[i] > 0
        · simp only [if_pos hp]
          rw [if_pos ⟨hc, hp⟩] at hnn
          exact ih (i + 1) (n + 1) (e + w[i]) _ (by omega) (by omega) (by omega) (by omega) (by omega) (by simp [hol]) (by rw [List.append_assoc]; exact ho) he (by omega)
        · simp only [if_neg hp]
          rw [if_neg (fun h => hp h.2)] at hnn
          exact ih (i + 1) n (e + w[i]) _ (by omega) (by omega) (by omega) (by omega) (by omega) (by simp [hol]) (by rw [List.append_assoc]; exact ho) he (by omega)
      · simp only [if_neg hc] at ho ⊢
        rw [if_neg (fun h => hc h.1)] at hnn
        exact ih (i + 1) n (e + w[i]) _ (by omega) (by omega) (by omega) (by omega) (by omega) (by simp [hol]) (by rw [List.append_assoc]; exact ho) he (by omega)
    · exact done i n e o (by omega) hn hol ho he hnn
theorem self_far (l w : List Int) : Ev (fun k => compositorlaw20_RiverSelf.j0 k l w true true) true := by
  refine Ev.step (fun k => compositorlaw20_RiverSelf.j0.eq_2 _ _ _ _ _) ?_
  simp only [if_true]
  exact Ev.now _
theorem RiverSelf : compositorlaw20_RiverSelf.Pure := by
  intro l w _ hw
  refine Ev.rounds (g := fun k => compositorlaw20_RiverSelf.f k l w) ?_
  unfold compositorlaw20_RiverSelf.f
  refine Ev.bind awake_ev ?_
  have hr : ∀ v ∈ w, 0 ≤ v ∧ v ≤ 255 := fun v hv => by
    have h := hw.2.2 v hv
    have h1 : IntKind.u8.min = 0 := by decide
    have h2 : IntKind.u8.max = 255 := by decide
    simp only [Lit.wf, Bool.and_eq_true, decide_eq_true_eq, h1, h2] at h
    omega
  by_cases h200 : (l.length : Int) > 200
  · simp only [if_pos h200]
    exact self_far l w
  · simp only [if_neg h200]
    by_cases hlw : (w.length : Int) < (l.length : Int)
    · simp only [decide_eq_true hlw]
      exact self_far l w
    · simp only [decide_eq_false hlw]
      refine Ev.step (fun k => compositorlaw20_RiverSelf.j0.eq_2 _ _ _ _ _) ?_
      simp only [Bool.false_eq_true, if_false]
      exact self_l0 l w (by omega) (by omega) hr l.length 0 0 0 [] (by omega) (by omega) (by omega) (by omega) (by omega) rfl rfl rfl (Nat.zero_add _)
end Go.Proofs.Ytpicbjcpdngmlaa.Pure
