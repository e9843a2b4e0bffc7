/- It does not matter which row is first; as many at most lie over one another as there are pairs; a row moved beyond the other one has none (at most three hundred items a row, at most 2^40 off). -/
import Derived.Test.YtpicbjcpdngmlaaLRRef
import Derived.Test.YtpicbjcpdngmlaaLAwake
import Derived.Test.YtpicbjcpdngmlaaGStRiverTurns
namespace Go.Proofs.Ytpicbjcpdngmlaa.Pure
open Go.RowKit Go.Proofs.Ytpicbjcpdngmlaa.G Go.Proofs.Ytpicbjcpdngmlaa.L Go.Proofs.YtpicbjcpdngmlaaW.PrintWords Go.Proofs.YtpicbjcpdngmlaaW.PrintLast Go.Proofs.YtpicbjcpdngmlaaW.PrintMore
set_option linter.unusedVariables false
set_option linter.unusedSimpArgs false
abbrev R24 := S24
theorem turns_far (a b : R24) : Ev (fun k => compositorlaw20_RiverTurns.j0 k true true a.f0 a.f1 a.f2 a.f3 a.f4 b.f0 b.f1 b.f2 b.f3 b.f4) true := by
  refine Ev.step (fun k => compositorlaw20_RiverTurns.j0.eq_2 _ _ _ _ _ _ _ _ _ _ _ _ _) ?_
  simp only [if_true]
  exact Ev.now _
def mxs (m : Int) (l : List I33) : Int := l.foldl (fun m x => max m x.f1) m
def mns (m : Int) (l : List I33) : Int := l.foldl (fun m x => min m x.f1) m
theorem mxs_le (l : List I33) : ∀ m, m ≤ mxs m l ∧ ∀ x ∈ l, x.f1 ≤ mxs m l := by
  induction l with
  | nil => intro m; exact ⟨Int.le_refl _, fun x hx => by cases hx⟩
  | cons y l ih =>
    intro m
    have h := ih (max m y.f1)
    refine ⟨?_, fun x hx => ?_⟩
    · show m ≤ mxs (max m y.f1) l
      have := h.1
      omega
    · show x.f1 ≤ mxs (max m y.f1) l
      rcases List.mem_cons.1 hx with rfl | hx
      · have := h.1; omega
      · exact h.2 x hx
theorem mns_le (l : List I33) : ∀ m, mns m l ≤ m ∧ ∀ x ∈ l, mns m l ≤ x.f1 := by
  induction l with
  | nil => intro m; exact ⟨Int.le_refl _, fun x hx => by cases hx⟩
  | cons y l ih =>
    intro m
    have h := ih (min m y.f1)
    refine ⟨?_, fun x hx => ?_⟩
    · show mns (min m y.f1) l ≤ m
      have := h.1
      omega
    · show mns (min m y.f1) l ≤ x.f1
      rcases List.mem_cons.1 hx with rfl | hx
      · have := h.1; omega
      · exact h.2 x hx
theorem mxs_drop (l : List I33) (i : Nat) (h : i < l.length) (m : Int) : mxs m (l.drop i) = mxs (max m l[i].f1) (l.drop (i + 1)) := by rw [drop_at l i h]; rfl
theorem mns_drop (l : List I33) (i : Nat) (h : i < l.length) (m : Int) : mns m (l.drop i) = mns (min m l[i].f1) (l.drop (i + 1)) := by rw [drop_at l i h]; rfl
theorem mk_shift (d : Int) (x : I33) : (⟨x.f0, x.f1 + d⟩ : I33) = (⟨x.f0, x.f1 + d⟩ : I33) := rfl
section
variable (a b : R24) (ha : a.f4.length ≤ 300) (hb : b.f4.length ≤ 300)
abbrev N (a b : R24) : Nat := cnt (fwd a.f4 a.f2) (fwd b.f4 b.f2)
include ha hb
theorem turns_l2 (p q n : Int) (hp : p = ((N a b : Nat) : Int)) (hn : p ≤ n) (hq : -1099511627776 ≤ q ∧ q ≤ 0) (hm : 0 ≤ n) (m : Int) (hm : 0 ≤ m ∧ m ≤ 1099511627776)
    (hA : q ≤ a.f2 ∧ a.f2 ≤ m) (hB : q ≤ b.f2 ∧ b.f2 ≤ m) (hAi : ∀ x ∈ a.f4, q ≤ x.f1 ∧ x.f1 ≤ m) (hBi : ∀ x ∈ b.f4, q ≤ x.f1 ∧ x.f1 ≤ m) :
    ∀ (d i : Nat), b.f4.length - i ≤ d → i ≤ b.f4.length → Ev (fun k => compositorlaw20_RiverTurns.l2 k true p m q n (i : Int) a.f0 a.f1 a.f2 a.f3 a.f4 b.f0 b.f1 b.f2 b.f3 b.f4 0 0 (b.f2 + (m - q + 1)) 0 (shift (m - q + 1) (b.f4.take i))) true := by
  intro d
  have done : ∀ i : Nat, i = b.f4.length → Ev (fun k => compositorlaw20_RiverTurns.l2 k true p m q n (i : Int) a.f0 a.f1 a.f2 a.f3 a.f4 b.f0 b.f1 b.f2 b.f3 b.f4 0 0 (b.f2 + (m - q + 1)) 0 (shift (m - q + 1) (b.f4.take i))) true := by
    intro i hi
    subst hi
    refine Ev.step (fun k => compositorlaw20_RiverTurns.l2.eq_2 _ _ _ _ _ _ _ _ _ _ _ _ _ _ _ _ _ _ _ _ _ _) ?_
    rw [List.take_length]
    have hsl : (shift (m - q + 1) b.f4).length ≤ 400 := by unfold shift; simp; omega
    have z : cnt (fwd a.f4 a.f2) (fwd (shift (m - q + 1) b.f4) (b.f2 + (m - q + 1))) = 0 := by
      apply cnt_apart m
      · intro g hg
        exact (fwd_within q m a.f4 a.f2 hA hAi g hg).2.2
      · intro g hg
        rw [fwd_shift] at hg
        obtain ⟨g0, hg0, rfl⟩ := List.mem_map.1 hg
        have h1 := (fwd_within q m b.f4 b.f2 hB hBi g0 hg0).1.1
        show m ≤ g0.1 + (m - q + 1)
        omega
    have hge : (0 : Int) ≤ ((N a b : Nat) : Int) := by omega
    simp only [if_neg (show ¬ ((b.f4.length : Nat) : Int) < (b.f4.length : Int) by omega), if_true]
    rw [count_f _ _ _ _ _ _ _ _ _ _ (by omega) (by omega)]
    simp only [Option.bind_some]
    rw [show cnt (fwd b.f4 b.f2) (fwd a.f4 a.f2) = N a b from cnt_comm _ _]
    simp only [if_pos hp, hp, if_pos (show ((N a b : Nat) : Int) ≥ 0 from hge), if_pos (show ((N a b : Nat) : Int) ≤ n by omega)]
    rw [count_f _ _ _ _ _ _ _ _ _ _ (by omega) hsl, z]
    simp only [Option.bind_some, Int.natCast_zero, if_true]
    rw [count_f _ _ _ _ _ _ _ _ _ _ hsl hsl, count_f _ _ _ _ _ _ _ _ _ _ (by omega) (by omega)]
    simp only [Option.bind_some, fwd_shift, cnt_shift, beq_self_eq_true]
    exact Ev.now _
  induction d with
  | zero => intro i hd hi; exact done i (by omega)
  | succ d ih =>
    intro i hd hi
    by_cases hlt : i < b.f4.length
    · refine Ev.step (fun k => compositorlaw20_RiverTurns.l2.eq_2 _ _ _ _ _ _ _ _ _ _ _ _ _ _ _ _ _ _ _ _ _ _) ?_
      have hx := hBi b.f4[i] (List.getElem_mem hlt)
      have hl8 : (shift (m - q + 1) (b.f4.take i)).length < 8796093022208 := by unfold shift; simp; omega
      simp only [if_pos (show (i : Int) < (b.f4.length : Int) by omega), if_pos (show (0 : Int) ≤ (i : Int) by omega), rdP b.f4 i hlt, wrap_nat i (by omega), if_pos hl8]
      have e : wrap64 (wrap64 (wrap64 (b.f4[i].f1 + m) - q) + 1) = b.f4[i].f1 + (m - q + 1) := by
        rw [wrap_in (n := b.f4[i].f1 + m) (by omega) (by omega), wrap_in (n := b.f4[i].f1 + m - q) (by omega) (by omega), wrap_in (by omega) (by omega)]
        omega
      have e2 : shift (m - q + 1) (b.f4.take i) ++ [(⟨b.f4[i].f0, b.f4[i].f1 + (m - q + 1)⟩ : I33)] = shift (m - q + 1) (b.f4.take (i + 1)) := by
        rw [List.take_succ_eq_append_getElem hlt]
        unfold shift
        rw [List.map_append]
        rfl
      rw [e, e2]
      exact ih (i + 1) (by omega) (by omega)
    · exact done i (by omega)
theorem turns_j3 (p q n m : Int) (hp : p = ((N a b : Nat) : Int)) (hn : p ≤ n) (c : Bool) (hc : c = true ∨ ((-1099511627776 ≤ q ∧ q ≤ 0) ∧ (0 ≤ m ∧ m ≤ 1099511627776) ∧ (q ≤ a.f2 ∧ a.f2 ≤ m) ∧ (q ≤ b.f2 ∧ b.f2 ≤ m) ∧ (∀ x ∈ a.f4, q ≤ x.f1 ∧ x.f1 ≤ m) ∧ (∀ x ∈ b.f4, q ≤ x.f1 ∧ x.f1 ≤ m))) :
    Ev (fun k => compositorlaw20_RiverTurns.j3 k true p m q n c a.f0 a.f1 a.f2 a.f3 a.f4 b.f0 b.f1 b.f2 b.f3 b.f4) true := by
  refine Ev.step (fun k => compositorlaw20_RiverTurns.j3.eq_2 _ _ _ _ _ _ _ _ _ _ _ _ _ _ _ _ _) ?_
  have hge : (0 : Int) ≤ ((N a b : Nat) : Int) := by omega
  cases c with
  | true =>
    simp only [if_true]
    rw [count_f _ _ _ _ _ _ _ _ _ _ (by omega) (by omega)]
    simp only [Option.bind_some]
    rw [show cnt (fwd b.f4 b.f2) (fwd a.f4 a.f2) = N a b from cnt_comm _ _]
    simp only [if_pos hp, hp, if_pos (show ((N a b : Nat) : Int) ≥ 0 from hge), decide_eq_true (show ((N a b : Nat) : Int) ≤ n by omega)]
    exact Ev.now _
  | false =>
    rcases hc with hc | ⟨hq, hm, hA, hB, hAi, hBi⟩
    · cases hc
    · simp only [Bool.false_eq_true, if_false]
      have e : wrap64 (wrap64 (wrap64 (b.f2 + m) - q) + 1) = b.f2 + (m - q + 1) := by
        rw [wrap_in (n := b.f2 + m) (by omega) (by omega), wrap_in (n := b.f2 + m - q) (by omega) (by omega), wrap_in (by omega) (by omega)]
        omega
      rw [e]
      exact turns_l2 a b ha hb p q n hp hn hq (by omega) m hm hA hB hAi hBi b.f4.length 0 (by omega) (by omega)
theorem turns_l1 (p : Int) (hp : p = ((N a b : Nat) : Int)) : ∀ (d i : Nat) (m q : Int), b.f4.length - i ≤ d → i ≤ b.f4.length → q ≤ 0 → 0 ≤ m → (∀ x ∈ a.f4, q ≤ x.f1 ∧ x.f1 ≤ m) → (∀ x ∈ b.f4.take i, q ≤ x.f1 ∧ x.f1 ≤ m) →
    Ev (fun k => compositorlaw20_RiverTurns.l1 k true p m q (i : Int) a.f0 a.f1 a.f2 a.f3 a.f4 b.f0 b.f1 b.f2 b.f3 b.f4) true := by
  intro d
  have done : ∀ (i : Nat) (m q : Int), i = b.f4.length → q ≤ 0 → 0 ≤ m → (∀ x ∈ a.f4, q ≤ x.f1 ∧ x.f1 ≤ m) → (∀ x ∈ b.f4.take i, q ≤ x.f1 ∧ x.f1 ≤ m) → Ev (fun k => compositorlaw20_RiverTurns.l1 k true p m q (i : Int) a.f0 a.f1 a.f2 a.f3 a.f4 b.f0 b.f1 b.f2 b.f3 b.f4) true := by
    intro i m q hi hq hm hA hB
    subst hi
    rw [List.take_length] at hB
    refine Ev.step (fun k => compositorlaw20_RiverTurns.l1.eq_2 _ _ _ _ _ _ _ _ _ _ _ _ _ _ _ _) ?_
    simp only [if_neg (show ¬ ((b.f4.length : Nat) : Int) < (b.f4.length : Int) by omega)]
    refine Ev.bind (gaps_f a.f0 a.f1 a.f2 a.f3 a.f4 (by omega)) ?_
    refine Ev.bind (gaps_f b.f0 b.f1 b.f2 b.f3 b.f4 (by omega)) ?_
    have h1 := fwd_len a.f4 a.f2
    have h2 := fwd_len b.f4 b.f2
    have h3 : (fwd a.f4 a.f2).length * (fwd b.f4 b.f2).length ≤ 300 * 300 := Nat.mul_le_mul (by omega) (by omega)
    have h4 := cnt_le (fwd a.f4 a.f2) (fwd b.f4 b.f2)
    have e : wrap64 ((((fwd a.f4 a.f2).map mk2).length : Int) * (((fwd b.f4 b.f2).map mk2).length : Int)) = (((fwd a.f4 a.f2).length * (fwd b.f4 b.f2).length : Nat) : Int) := by
      rw [List.length_map, List.length_map, ← Int.natCast_mul, wrap_in (by omega) (by omega)]
    have hpn : p ≤ (((fwd a.f4 a.f2).length * (fwd b.f4 b.f2).length : Nat) : Int) := by rw [hp]; exact Int.ofNat_le.2 h4
    simp only [e, mx_max, mn_min]
    have hA' : ∀ x ∈ a.f4, min (min q a.f2) b.f2 ≤ x.f1 ∧ x.f1 ≤ max (max m a.f2) b.f2 := fun x hx => by have := hA x hx; omega
    have hB' : ∀ x ∈ b.f4, min (min q a.f2) b.f2 ≤ x.f1 ∧ x.f1 ≤ max (max m a.f2) b.f2 := fun x hx => by have := hB x hx; omega
    by_cases hf : max (max m a.f2) b.f2 > 1099511627776
    · simp only [if_pos hf]
      exact turns_j3 a b ha hb p _ _ _ hp hpn true (.inl rfl)
    · simp only [if_neg hf]
      refine turns_j3 a b ha hb p _ _ _ hp hpn _ ?_
      by_cases hg : min (min q a.f2) b.f2 < -1099511627776
      · exact .inl (decide_eq_true hg)
      · exact .inr ⟨⟨by omega, by omega⟩, ⟨by omega, by omega⟩, ⟨by omega, by omega⟩, ⟨by omega, by omega⟩, hA', hB'⟩
  induction d with
  | zero => intro i m q hd hi hq hm hA hB; exact done i m q (by omega) hq hm hA hB
  | succ d ih =>
    intro i m q hd hi hq hm hA hB
    by_cases hlt : i < b.f4.length
    · refine Ev.step (fun k => compositorlaw20_RiverTurns.l1.eq_2 _ _ _ _ _ _ _ _ _ _ _ _ _ _ _ _) ?_
      simp only [if_pos (show (i : Int) < (b.f4.length : Int) by omega), if_pos (show (0 : Int) ≤ (i : Int) by omega), rdP b.f4 i hlt, wrap_nat i (by omega), mx_max, mn_min]
      refine ih (i + 1) _ _ (by omega) (by omega) (by omega) (by omega) (fun x hx => by have := hA x hx; omega) (fun x hx => ?_)
      rw [List.take_succ_eq_append_getElem hlt] at hx
      rcases List.mem_append.1 hx with hx | hx
      · have := hB x hx; omega
      · obtain rfl := List.mem_singleton.1 hx; omega
    · exact done i m q (by omega) hq hm hA hB
theorem turns_l0 (p : Int) (hp : p = ((N a b : Nat) : Int)) : ∀ (d i : Nat) (m q : Int), a.f4.length - i ≤ d → i ≤ a.f4.length → q ≤ 0 → 0 ≤ m → (∀ x ∈ a.f4.take i, q ≤ x.f1 ∧ x.f1 ≤ m) →
    Ev (fun k => compositorlaw20_RiverTurns.l0 k true p m q (i : Int) a.f0 a.f1 a.f2 a.f3 a.f4 b.f0 b.f1 b.f2 b.f3 b.f4) true := by
  intro d
  have done : ∀ (i : Nat) (m q : Int), i = a.f4.length → q ≤ 0 → 0 ≤ m → (∀ x ∈ a.f4.take i, q ≤ x.f1 ∧ x.f1 ≤ m) → Ev (fun k => compositorlaw20_RiverTurns.l0 k true p m q (i : Int) a.f0 a.f1 a.f2 a.f3 a.f4 b.f0 b.f1 b.f2 b.f3 b.f4) true := by
    intro i m q hi hq hm hA
    subst hi
    rw [List.take_length] at hA
    refine Ev.step (fun k => compositorlaw20_RiverTurns.l0.eq_2 _ _ _ _ _ _ _ _ _ _ _ _ _ _ _ _) ?_
    simp only [if_neg (show ¬ ((a.f4.length : Nat) : Int) < (a.f4.length : Int) by omega)]
    exact turns_l1 a b ha hb p hp b.f4.length 0 m q (by omega) (by omega) hq hm hA (fun x hx => by simp at hx)
  induction d with
  | zero => intro i m q hd hi hq hm hA; exact done i m q (by omega) hq hm hA
  | succ d ih =>
    intro i m q hd hi hq hm hA
    by_cases hlt : i < a.f4.length
    · refine Ev.step (fun k => compositorlaw20_RiverTurns.l0.eq_2 _ _ _ _ _ _ _ _ _ _ _ _ _ _ _ _) ?_
      simp only [if_pos (show (i : Int) < (a.f4.length : Int) by omega), if_pos (show (0 : Int) ≤ (i : Int) by omega), rdP a.f4 i hlt, wrap_nat i (by omega), mx_max, mn_min]
      refine ih (i + 1) _ _ (by omega) (by omega) (by omega) (by omega) (fun x hx => ?_)
      rw [List.take_succ_eq_append_getElem hlt] at hx
      rcases List.mem_append.1 hx with hx | hx
      · have := hA x hx; omega
      · obtain rfl := List.mem_singleton.1 hx; omega
    · exact done i m q (by omega) hq hm hA
end
theorem RiverTurns : compositorlaw20_RiverTurns.Pure := by
  intro a b _ _
  refine Ev.rounds (g := fun k => compositorlaw20_RiverTurns.f k a.f0 a.f1 a.f2 a.f3 a.f4 b.f0 b.f1 b.f2 b.f3 b.f4) ?_
  unfold compositorlaw20_RiverTurns.f
  refine Ev.bind awake_ev ?_
  simp only [few_v, Option.bind_some, decide_eq_true_eq]
  by_cases ha : (a.f4.length : Int) ≤ 300
  · simp only [if_pos ha]
    by_cases hb : (b.f4.length : Int) ≤ 300
    · simp only [decide_eq_true hb, Bool.not_true]
      refine Ev.step (fun k => compositorlaw20_RiverTurns.j0.eq_2 _ _ _ _ _ _ _ _ _ _ _ _ _) ?_
      simp only [Bool.false_eq_true, if_false]
      rw [count_f a.f0 a.f1 a.f2 a.f3 b.f0 b.f1 b.f2 b.f3 a.f4 b.f4 (by omega) (by omega)]
      simp only [Option.bind_some]
      exact turns_l0 a b (by omega) (by omega) _ rfl a.f4.length 0 0 0 (by omega) (by omega) (by omega) (by omega) (fun x hx => by simp at hx)
    · simp only [decide_eq_false hb, Bool.not_false]
      exact turns_far a b
  · simp only [if_neg ha]
    exact turns_far a b
end Go.Proofs.Ytpicbjcpdngmlaa.Pure
