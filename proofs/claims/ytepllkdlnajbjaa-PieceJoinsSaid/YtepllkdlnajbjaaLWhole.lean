/- Lines' pieces put together again: the program's and the reference's words are the same. -/
import Derived.Test.YtepllkdlnajbjaaGx9
import Derived.Test.YtepllkdlnajbjaaGx19
import Derived.Test.YtepllkdlnajbjaaGx7
import Derived.Test.YtepllkdlnajbjaaLEv
namespace Go.Proofs.Ytepllkdlnajbjaa.L
open Go.RowKit Go.Proofs.Ytepllkdlnajbjaa.G Go.Proofs.YtepllkdlnajbjaaW.PrintWords
set_option linter.unusedVariables false
set_option linter.unusedSimpArgs false
def hyB (kind : Int) : Bool := decide (kind = 2) || decide (kind = 3)
def onB (kind : Int) : Bool := decide (2 ≤ kind) && decide (kind ≤ 4)
def cutP (b : Bool) (p : List Int) : List Int := if b = true ∧ 0 < p.length then p.take (p.length - 1) else p
def putP (b : Bool) (out : List (List Int)) (p : List Int) : List (List Int) := if b = true ∧ 0 < out.length then out.set (out.length - 1) (out.getD (out.length - 1) [] ++ p) else out ++ [p]
def lineV (h on : Bool) (m : Nat) : Nat → List (List Int) → List (List Int) → List (List Int)
  | _, [], out => out
  | k, p :: ps, out => lineV h on m (k + 1) ps (putP (decide (k = 0) && on) out (cutP (decide (k + 1 = m) && h) p))
def wholeV : List (List (List Int)) → List S24 → Bool → List (List Int) → List (List Int)
  | [], _, _, out => out
  | _ :: _, [], _, out => out
  | l :: ls, e :: es, on, out => wholeV ls es (onB e.f0) (lineV (hyB e.f0) on l.length 0 l out)
/-- Not too much: the bounds that both loops ask of what is made. -/
structure Fits (out : List (List Int)) (n : Nat) : Prop where
  many : out.length ≤ n
  long : ∀ x ∈ out, x.length ≤ 100 * n
theorem fits_mono {out : List (List Int)} {n m : Nat} (h : Fits out n) (hm : n ≤ m) : Fits out m := ⟨Nat.le_trans h.many hm, fun x hx => Nat.le_trans (h.long x hx) (by omega)⟩
theorem cutP_len (b : Bool) (p : List Int) : (cutP b p).length ≤ p.length := by
  unfold cutP
  split
  · rw [List.length_take]; omega
  · exact Nat.le_refl _
theorem fits_put {out : List (List Int)} {n : Nat} (h : Fits out n) (b : Bool) (p : List Int) (hp : p.length ≤ 100) : Fits (putP b out p) (n + 1) := by
  unfold putP
  split
  · rename_i c
    refine ⟨by have := h.many; simp; omega, fun x hx => ?_⟩
    rcases List.mem_or_eq_of_mem_set hx with hx | hx
    · have := h.long x hx; omega
    · rw [hx, List.length_append]
      have : (out.getD (out.length - 1) []).length ≤ 100 * n := by
        rw [List.getD_eq_getElem?_getD, List.getElem?_eq_getElem (by omega), Option.getD_some]
        exact h.long _ (List.getElem_mem _)
      omega
  · refine ⟨by have := h.many; simp; omega, fun x hx => ?_⟩
    rcases List.mem_append.1 hx with hx | hx
    · have := h.long x hx; omega
    · rw [List.mem_singleton.1 hx]; omega
theorem rd_row (l : List (List Int)) (i : Nat) (h : i < l.length) : rd_L1 l (i : Int) = l[i] := getD_nat l _ i h
theorem rd_line3 (l : List (List (List Int))) (i : Nat) (h : i < l.length) : rd_L4 l (i : Int) = l[i] := getD_nat l _ i h
theorem rd_brk (l : List S24) (i : Nat) (h : i < l.length) : rd_T24 l (i : Int) = l[i] := getD_nat l _ i h
theorem clone_ok (l : List Int) (h : l.length < 17592186044416) : slices_Clone_int_int.f l = some l := by
  unfold slices_Clone_int_int.f
  rw [if_pos h]
theorem cat_ok (a b : List Int) (h : a.length + b.length < 17592186044416) : slices_Concat_int_int_cat.f a b = some (a ++ b) := by
  unfold slices_Concat_int_int_cat.f
  rw [if_pos h]
theorem last_at (out : List (List Int)) (h : 0 < out.length) (hb : out.length ≤ 1000000) : wrap64 ((out.length : Int) - 1) = ((out.length - 1 : Nat) : Int) := by
  rw [wrap_in (by omega) (by omega)]; omega
theorem hyph_f (kind : Int) : piece_hyphened.f kind = some (hyB kind) := by
  unfold piece_hyphened.f hyB
  by_cases h : kind = 2
  · rw [if_pos h]; simp [h]
  · rw [if_neg h]
    by_cases h3 : kind = 3
    · simp [h3]
    · simp [h, h3]
/-- The program's stores and appends of one piece, by what they put. -/
theorem put_prog (k : Nat) (b : Bool) (out : List (List Int)) (p : List Int) (n : Nat) (hf : Fits out n) (hn : n ≤ 1000) (hp : p.length ≤ 100) {β : Type} (F : List (List Int) → Option β) :
    (if b = true then (if (wrap64 ((out.length : Int) - 1)) ≥ 0 then (if 0 ≤ (wrap64 ((out.length : Int) - 1)) then (if (wrap64 ((out.length : Int) - 1)) < (out.length : Int) then ((slices_Concat_int_int_cat.f (rd_L1 out (wrap64 ((out.length : Int) - 1))) p).bind fun t => F (out.set ((wrap64 ((out.length : Int) - 1)) : Int).toNat t)) else none) else none)
      else ((slices_Clone_int_int.f p).bind fun t => (if out.length < 5864062014805 then F (out ++ [t]) else none))) else ((slices_Clone_int_int.f p).bind fun t => (if out.length < 5864062014805 then F (out ++ [t]) else none))) = F (putP b out p) := by
  have hm := hf.many
  rw [clone_ok p (by omega)]
  simp only [Option.bind_some, if_pos (show out.length < 5864062014805 by omega)]
  unfold putP
  cases b with
  | false => simp
  | true =>
    by_cases h0 : 0 < out.length
    · have e := last_at out h0 (by omega)
      have hlen : (out.getD (out.length - 1) []).length ≤ 100 * n := by
        rw [List.getD_eq_getElem?_getD, List.getElem?_eq_getElem (by omega), Option.getD_some]
        exact hf.long _ (List.getElem_mem _)
      have er : rd_L1 out ((out.length - 1 : Nat) : Int) = out.getD (out.length - 1) [] := by unfold rd_L1; rw [Int.toNat_natCast]
      simp only [if_true, e, er, Int.toNat_natCast]
      rw [if_pos (by omega), if_pos (by omega), if_pos (by omega), cat_ok _ _ (by omega), if_pos ⟨trivial, h0⟩]
      rfl
    · have e : ¬ (wrap64 ((out.length : Int) - 1)) ≥ 0 := by rw [wrap_in (by omega) (by omega)]; omega
      simp only [if_true, if_neg e, if_neg (show ¬ (True ∧ 0 < out.length) from fun h => h0 h.2)]
/-- The reference's. -/
theorem put_ref (k : Nat) (b : Bool) (out : List (List Int)) (p : List Int) (n : Nat) (hf : Fits out n) (hn : n ≤ 1000) (hp : p.length ≤ 100) {β : Type} (F : List (List Int) → Option β) :
    (if b = true then (if (out.length : Int) > 0 then ((some (([] : List Int) : List Int)).bind fun y => (if 0 ≤ (wrap64 ((out.length : Int) - 1)) then (if (wrap64 ((out.length : Int) - 1)) < (out.length : Int) then (if y.length + (rd_L1 out (wrap64 ((out.length : Int) - 1))).length < 17592186044416 then ((some (y ++ (rd_L1 out (wrap64 ((out.length : Int) - 1))) : List Int)).bind fun z => (if z.length + p.length < 17592186044416 then F (out.set ((wrap64 ((out.length : Int) - 1)) : Int).toNat (z ++ p)) else none)) else none) else none) else none)) else (if out.length < 5864062014805 then F (out ++ [p]) else none)) else (if out.length < 5864062014805 then F (out ++ [p]) else none)) = F (putP b out p) := by
  have hm := hf.many
  simp only [Option.bind_some, if_pos (show out.length < 5864062014805 by omega)]
  unfold putP
  cases b with
  | false => simp
  | true =>
    by_cases h0 : 0 < out.length
    · have e := last_at out h0 (by omega)
      have hlen : (out.getD (out.length - 1) []).length ≤ 100 * n := by
        rw [List.getD_eq_getElem?_getD, List.getElem?_eq_getElem (by omega), Option.getD_some]
        exact hf.long _ (List.getElem_mem _)
      have er : rd_L1 out ((out.length - 1 : Nat) : Int) = out.getD (out.length - 1) [] := by unfold rd_L1; rw [Int.toNat_natCast]
      simp only [if_true, e, er, Int.toNat_natCast, List.nil_append, List.length_nil, Nat.zero_add]
      rw [if_pos (by omega), if_pos (by omega), if_pos (by omega), if_pos (by omega), if_pos (by omega), if_pos ⟨trivial, h0⟩]
    · simp only [if_true, if_neg (show ¬ (out.length : Int) > 0 by omega), if_neg (show ¬ (True ∧ 0 < out.length) from fun h => h0 h.2)]
/-- One piece, by its place: what is put where the place is the line's first one, and the line before goes on. -/
theorem put_at (x : Int) (on : Bool) {β : Type} (X Y Z : β) (h : (if (decide (x = 0) && on) = true then X else Y) = Z) : (if x = 0 then (if on = true then X else Y) else Y) = Z := by
  rw [← h]
  by_cases c : x = 0
  · simp [c]
  · simp [c]
theorem prog_l1 (L : List (List (List Int))) (E : List S24) (i : Nat) (hi : i < L.length) (hE : i < E.length) (hL : L.length ≤ 30) (hEl : E.length ≤ 40) (hm : L[i].length ≤ 30) (hp : ∀ p ∈ L[i], p.length ≤ 100) (on : Bool) (r : List (List Int)) :
    ∀ (d k n : Nat) (out : List (List Int)), L[i].length - k = d → k ≤ L[i].length → Fits out n → n + d ≤ 1000 →
      Ev (fun kk => piece_Whole.l0 kk E (lineV (hyB E[i].f0) on L[i].length k (L[i].drop k) out) (onB E[i].f0) L (L.length : Int) ((i + 1 : Nat) : Int)) r →
      Ev (fun kk => piece_Whole.l1 kk E out on (i : Int) L[i] L (L.length : Int) (i : Int) L[i] (L[i].length : Int) (k : Int)) r := by
  intro d
  induction d with
  | zero =>
    intro k n out hd hk hf hn hr
    refine Ev.step (fun kk => piece_Whole.l1.eq_2 _ _ _ _ _ _ _ _ _ _ _ _) ?_
    have hge : ¬ (k : Int) < (L[i].length : Int) := by omega
    rw [List.drop_of_length_le (by omega)] at hr
    simp only [if_neg hge, if_pos (show (0 : Int) ≤ (i : Int) by omega), if_pos (show (i : Int) < (E.length : Int) by omega), rd_brk E i hE, hyph_f, Option.bind_some, wrap_nat i (by omega)]
    have hb : onB E[i].f0 = (if hyB E[i].f0 = true then true else (E[i].f0 == 4)) := by
      unfold onB hyB
      by_cases h2 : E[i].f0 = 2
      · simp [h2]
      · by_cases h3 : E[i].f0 = 3
        · simp [h3]
        · simp only [h2, h3, decide_false, Bool.or_false, Bool.false_eq_true, if_false]
          rw [Bool.eq_iff_iff]
          simp only [Bool.and_eq_true, decide_eq_true_eq, beq_iff_eq]
          omega
    rw [hb] at hr
    cases hh : hyB E[i].f0 with
    | true => simpa only [hh, if_true, lineV] using hr
    | false => simpa only [hh, if_false, Bool.false_eq_true, lineV] using hr
  | succ d ih =>
    intro k n out hd hk hf hn hr
    have hlt : k < L[i].length := by omega
    have hpk : L[i][k].length ≤ 100 := hp _ (List.getElem_mem hlt)
    refine Ev.step (fun kk => piece_Whole.l1.eq_2 _ _ _ _ _ _ _ _ _ _ _ _) ?_
    rw [drop_at L[i] k hlt, lineV] at hr
    have eW : wrap64 ((L[i].length : Int) - 1) = ((L[i].length - 1 : Nat) : Int) := by rw [wrap_in (by omega) (by omega)]; omega
    simp only [rd_row L[i] k hlt, wrap_nat k (by omega), eW, if_pos (show (k : Int) < (L[i].length : Int) by omega), if_pos (show (0 : Int) ≤ (k : Int) by omega), if_pos (show (0 : Int) ≤ (i : Int) by omega), if_pos (show (i : Int) < (E.length : Int) by omega), rd_brk E i hE, hyph_f, Option.bind_some]
    have key : ∀ (c : Bool), cutP c L[i][k] = cutP (decide (k + 1 = L[i].length) && hyB E[i].f0) L[i][k] →
        Ev (fun kk => piece_Whole.l1 kk E (putP (decide ((k : Int) = 0) && on) out (cutP c L[i][k])) on (i : Int) L[i] L (L.length : Int) (i : Int) L[i] (L[i].length : Int) ((k + 1 : Nat) : Int)) r := by
      intro c hc
      have e0 : decide ((k : Int) = 0) = decide (k = 0) := by
        by_cases h : k = 0
        · simp [h]
        · simp [h]
      rw [hc, e0]
      exact ih (k + 1) (n + 1) _ (by omega) (by omega) (fits_put hf _ _ (Nat.le_trans (cutP_len _ _) hpk)) (by omega) hr
    have plain : ∀ (c : Bool), cutP c L[i][k] = L[i][k] → cutP c L[i][k] = cutP (decide (k + 1 = L[i].length) && hyB E[i].f0) L[i][k] →
        Ev (fun kk => if (k : Int) = 0 then (if on = true then (if (wrap64 ((out.length : Int) - 1)) ≥ 0 then (if 0 ≤ (wrap64 ((out.length : Int) - 1)) then (if (wrap64 ((out.length : Int) - 1)) < (out.length : Int) then ((slices_Concat_int_int_cat.f (rd_L1 out (wrap64 ((out.length : Int) - 1))) L[i][k]).bind fun t => piece_Whole.l1 kk E (out.set ((wrap64 ((out.length : Int) - 1)) : Int).toNat t) on (i : Int) L[i] L (L.length : Int) (i : Int) L[i] (L[i].length : Int) ((k + 1 : Nat) : Int)) else none) else none)
          else ((slices_Clone_int_int.f L[i][k]).bind fun t => (if out.length < 5864062014805 then piece_Whole.l1 kk E (out ++ [t]) on (i : Int) L[i] L (L.length : Int) (i : Int) L[i] (L[i].length : Int) ((k + 1 : Nat) : Int) else none))) else ((slices_Clone_int_int.f L[i][k]).bind fun t => (if out.length < 5864062014805 then piece_Whole.l1 kk E (out ++ [t]) on (i : Int) L[i] L (L.length : Int) (i : Int) L[i] (L[i].length : Int) ((k + 1 : Nat) : Int) else none))) else ((slices_Clone_int_int.f L[i][k]).bind fun t => (if out.length < 5864062014805 then piece_Whole.l1 kk E (out ++ [t]) on (i : Int) L[i] L (L.length : Int) (i : Int) L[i] (L[i].length : Int) ((k + 1 : Nat) : Int) else none))) r := by
      intro c h1 h2
      have := key c h2
      rw [h1] at this
      exact Ev.congr (fun kk => put_at _ _ _ _ _ (put_prog kk (decide ((k : Int) = 0) && on) out L[i][k] n hf (by omega) hpk (fun o => piece_Whole.l1 kk E o on (i : Int) L[i] L (L.length : Int) (i : Int) L[i] (L[i].length : Int) ((k + 1 : Nat) : Int)))) this
    by_cases hl : (k : Int) = ((L[i].length - 1 : Nat) : Int)
    · have hkl : k + 1 = L[i].length := by omega
      simp only [if_pos hl]
      by_cases h0 : (L[i][k].length : Int) > 0
      · simp only [if_pos h0]
        cases hh : hyB E[i].f0 with
        | false =>
          simp only [Bool.false_eq_true, if_false]
          exact plain false (by simp [cutP]) (by simp [hh, cutP])
        | true =>
          have eP : wrap64 ((L[i][k].length : Int) - 1) = ((L[i][k].length - 1 : Nat) : Int) := by rw [wrap_in (by omega) (by omega)]; omega
          simp only [if_true, eP, if_pos (show (0 : Int) ≤ ((L[i][k].length - 1 : Nat) : Int) by omega), if_pos (show ((L[i][k].length - 1 : Nat) : Int) ≤ (L[i][k].length : Int) by omega), Int.toNat_natCast, Option.bind_some]
          have hc : cutP true L[i][k] = L[i][k].take (L[i][k].length - 1) := by unfold cutP; rw [if_pos ⟨rfl, by omega⟩]
          have := key true (by rw [hh, hkl]; simp)
          rw [hc] at this
          exact Ev.congr (fun kk => put_at _ _ _ _ _ (put_prog kk (decide ((k : Int) = 0) && on) out (L[i][k].take (L[i][k].length - 1)) n hf (by omega) (by rw [List.length_take]; omega) (fun o => piece_Whole.l1 kk E o on (i : Int) L[i] L (L.length : Int) (i : Int) L[i] (L[i].length : Int) ((k + 1 : Nat) : Int)))) this
      · simp only [if_neg h0]
        have hz : L[i][k].length = 0 := by omega
        exact plain false (by simp [cutP]) (by simp [cutP, hz])
    · simp only [if_neg hl]
      have hkl : ¬ k + 1 = L[i].length := by omega
      exact plain false (by simp [cutP]) (by simp [cutP, hkl])
theorem ref_j3 (L : List (List (List Int))) (E : List S24) (i k : Nat) (on c : Bool) (p : List Int) (hp : p.length ≤ 100) (hk : k ≤ 30) (n : Nat) (out : List (List Int)) (hf : Fits out n) (hn : n ≤ 1000) (hc : c = true → 0 < p.length) (r : List (List Int))
    (h : Ev (fun kk => compositorref17_Whole.l1 kk L E (putP (decide (k = 0) && on) out (cutP c p)) on (i : Int) ((k + 1 : Nat) : Int)) r) : Ev (fun kk => compositorref17_Whole.j3 kk L E out on (i : Int) (k : Int) p c) r := by
  have e0 : decide ((k : Int) = 0) = decide (k = 0) := by
    by_cases h : k = 0
    · simp [h]
    · simp [h]
  rw [← e0] at h
  refine Ev.step (fun kk => compositorref17_Whole.j3.eq_2 _ _ _ _ _ _ _ _ _) ?_
  cases c with
  | false =>
    have hcp : cutP false p = p := by simp [cutP]
    rw [hcp] at h
    simp only [Bool.false_eq_true, if_false, wrap_nat k (by omega)]
    exact Ev.congr (fun kk => put_at _ _ _ _ _ (put_ref kk (decide ((k : Int) = 0) && on) out p n hf hn hp (fun o => compositorref17_Whole.l1 kk L E o on (i : Int) ((k + 1 : Nat) : Int)))) h
  | true =>
    have h0 := hc rfl
    have eP : wrap64 ((p.length : Int) - 1) = ((p.length - 1 : Nat) : Int) := by rw [wrap_in (by omega) (by omega)]; omega
    have hcp : cutP true p = p.take (p.length - 1) := by unfold cutP; rw [if_pos ⟨rfl, h0⟩]
    rw [hcp] at h
    simp only [if_true, eP, if_pos (show (0 : Int) ≤ ((p.length - 1 : Nat) : Int) by omega), if_pos (show ((p.length - 1 : Nat) : Int) ≤ (p.length : Int) by omega), Int.toNat_natCast, Option.bind_some, wrap_nat k (by omega)]
    exact Ev.congr (fun kk => put_at _ _ _ _ _ (put_ref kk (decide ((k : Int) = 0) && on) out (p.take (p.length - 1)) n hf hn (by rw [List.length_take]; omega) (fun o => compositorref17_Whole.l1 kk L E o on (i : Int) ((k + 1 : Nat) : Int)))) h
theorem ref_l1 (L : List (List (List Int))) (E : List S24) (i : Nat) (hi : i < L.length) (hE : i < E.length) (hL : L.length ≤ 30) (hEl : E.length ≤ 40) (hm : L[i].length ≤ 30) (hp : ∀ p ∈ L[i], p.length ≤ 100) (on : Bool) (r : List (List Int)) :
    ∀ (d k n : Nat) (out : List (List Int)), L[i].length - k = d → k ≤ L[i].length → Fits out n → n + d ≤ 1000 →
      Ev (fun kk => compositorref17_Whole.l0 kk L E (lineV (hyB E[i].f0) on L[i].length k (L[i].drop k) out) (onB E[i].f0) ((i + 1 : Nat) : Int)) r →
      Ev (fun kk => compositorref17_Whole.l1 kk L E out on (i : Int) (k : Int)) r := by
  intro d
  induction d with
  | zero =>
    intro k n out hd hk hf hn hr
    refine Ev.step (fun kk => compositorref17_Whole.l1.eq_2 _ _ _ _ _ _ _) ?_
    have hge : ¬ (k : Int) < (L[i].length : Int) := by omega
    rw [List.drop_of_length_le (by omega)] at hr
    simp only [rd_line3 L i hi, if_neg hge, if_pos (show (0 : Int) ≤ (i : Int) by omega), if_pos (show (i : Int) < (L.length : Int) by omega), if_pos (show (i : Int) < (E.length : Int) by omega), rd_brk E i hE, wrap_nat i (by omega)]
    by_cases h2 : E[i].f0 ≥ 2
    · have : onB E[i].f0 = decide (E[i].f0 ≤ 4) := by
        have h2' : 2 ≤ E[i].f0 := h2
        simp [onB, h2']
      rw [this] at hr
      simpa only [if_pos h2, lineV] using hr
    · have : onB E[i].f0 = false := by
        have h2' : ¬ 2 ≤ E[i].f0 := h2
        simp [onB, h2']
      rw [this] at hr
      simpa only [if_neg h2, lineV] using hr
  | succ d ih =>
    intro k n out hd hk hf hn hr
    have hlt : k < L[i].length := by omega
    have hpk : L[i][k].length ≤ 100 := hp _ (List.getElem_mem hlt)
    refine Ev.step (fun kk => compositorref17_Whole.l1.eq_2 _ _ _ _ _ _ _) ?_
    rw [drop_at L[i] k hlt, lineV] at hr
    have eW : wrap64 ((L[i].length : Int) - 1) = ((L[i].length - 1 : Nat) : Int) := by rw [wrap_in (by omega) (by omega)]; omega
    simp only [rd_line3 L i hi, rd_row L[i] k hlt, eW, if_pos (show (k : Int) < (L[i].length : Int) by omega), if_pos (show (0 : Int) ≤ (k : Int) by omega), if_pos (show (0 : Int) ≤ (i : Int) by omega), if_pos (show (i : Int) < (L.length : Int) by omega), if_pos (show (i : Int) < (E.length : Int) by omega), rd_brk E i hE, Option.bind_some, List.nil_append, List.length_nil, Nat.zero_add, if_pos (show L[i][k].length < 17592186044416 by omega)]
    have key : ∀ (c : Bool), (c = true → 0 < L[i][k].length) → cutP c L[i][k] = cutP (decide (k + 1 = L[i].length) && hyB E[i].f0) L[i][k] →
        Ev (fun kk => compositorref17_Whole.j3 kk L E out on (i : Int) (k : Int) L[i][k] c) r := by
      intro c h0 hc
      refine ref_j3 L E i k on c L[i][k] hpk (by omega) n out hf (by omega) h0 r ?_
      rw [hc]
      exact ih (k + 1) (n + 1) _ (by omega) (by omega) (fits_put hf _ _ (Nat.le_trans (cutP_len _ _) hpk)) (by omega) hr
    by_cases hl : (k : Int) = ((L[i].length - 1 : Nat) : Int)
    · have hkl : k + 1 = L[i].length := by omega
      simp only [if_pos hl]
      by_cases h0 : (L[i][k].length : Int) > 0
      · simp only [if_pos h0]
        by_cases h2 : E[i].f0 = 2
        · simp only [if_pos h2]
          exact key true (fun _ => by omega) (by simp [hkl, hyB, h2])
        · simp only [if_neg h2]
          refine key _ (fun _ => by omega) ?_
          have : hyB E[i].f0 = (E[i].f0 == 3) := by
            unfold hyB
            by_cases h3 : E[i].f0 = 3
            · simp [h3]
            · simp [h2, h3]
          rw [this, hkl]
          simp
      · simp only [if_neg h0]
        have hz : L[i][k].length = 0 := by omega
        exact key false (fun h => by cases h) (by simp [cutP, hz])
    · simp only [if_neg hl]
      have hkl : ¬ k + 1 = L[i].length := by omega
      exact key false (fun h => by cases h) (by simp [cutP, hkl])
theorem fits_line (h on : Bool) (m : Nat) : ∀ (ps : List (List Int)) (k n : Nat) (out : List (List Int)), Fits out n → (∀ p ∈ ps, p.length ≤ 100) → Fits (lineV h on m k ps out) (n + ps.length) := by
  intro ps
  induction ps with
  | nil => exact fun k n out hf _ => hf
  | cons p ps ih =>
    intro k n out hf hp
    rw [lineV]
    have := ih (k + 1) (n + 1) _ (fits_put hf (decide (k = 0) && on) (cutP (decide (k + 1 = m) && h) p) (Nat.le_trans (cutP_len _ _) (hp p List.mem_cons_self))) (fun q hq => hp q (List.mem_cons_of_mem _ hq))
    exact fits_mono this (by simp; omega)
/-- Lines that are few, of few pieces, of few codes. -/
def Small (L : List (List (List Int))) : Prop := L.length ≤ 30 ∧ ∀ l ∈ L, l.length ≤ 30 ∧ ∀ p ∈ l, p.length ≤ 100
theorem prog_l0 (L : List (List (List Int))) (E : List S24) (hS : Small L) (hEl : E.length ≤ 40) : ∀ (d i n : Nat) (on : Bool) (out : List (List Int)), L.length - i = d → i ≤ L.length → Fits out n → n ≤ 30 * i →
    Ev (fun kk => piece_Whole.l0 kk E out on L (L.length : Int) (i : Int)) (wholeV (L.drop i) (E.drop i) on out) := by
  obtain ⟨hL, hS⟩ := hS
  intro d
  induction d with
  | zero =>
    intro i n on out hd hi hf hn
    refine Ev.step (fun kk => piece_Whole.l0.eq_2 _ _ _ _ _ _ _) ?_
    have hge : ¬ (i : Int) < (L.length : Int) := by omega
    simp only [if_neg hge]
    rw [List.drop_of_length_le (by omega), wholeV]
    exact Ev.now _
  | succ d ih =>
    intro i n on out hd hi hf hn
    have hlt : i < L.length := by omega
    refine Ev.step (fun kk => piece_Whole.l0.eq_2 _ _ _ _ _ _ _) ?_
    simp only [if_pos (show (i : Int) < (L.length : Int) by omega), if_pos (show (0 : Int) ≤ (i : Int) by omega), rd_line3 L i hlt]
    rw [drop_at L i hlt]
    by_cases hE : i < E.length
    · simp only [if_neg (show ¬ (i : Int) ≥ (E.length : Int) by omega)]
      rw [drop_at E i hE, wholeV]
      have hs := hS _ (List.getElem_mem hlt)
      refine prog_l1 L E i hlt hE hL hEl hs.1 hs.2 on _ L[i].length 0 n out (by omega) (by omega) hf (by omega) ?_
      exact ih (i + 1) (n + L[i].length) _ _ (by omega) (by omega) (fits_line _ _ _ _ _ _ _ hf hs.2) (by omega)
    · simp only [if_pos (show (i : Int) ≥ (E.length : Int) by omega)]
      rw [List.drop_of_length_le (l := E) (by omega), wholeV]
      exact Ev.now _
theorem ref_l0 (L : List (List (List Int))) (E : List S24) (hS : Small L) (hEl : E.length ≤ 40) : ∀ (d i n : Nat) (on : Bool) (out : List (List Int)), L.length - i = d → i ≤ L.length → Fits out n → n ≤ 30 * i →
    Ev (fun kk => compositorref17_Whole.l0 kk L E out on (i : Int)) (wholeV (L.drop i) (E.drop i) on out) := by
  obtain ⟨hL, hS⟩ := hS
  intro d
  induction d with
  | zero =>
    intro i n on out hd hi hf hn
    refine Ev.step (fun kk => compositorref17_Whole.l0.eq_2 _ _ _ _ _ _) ?_
    have hge : ¬ (i : Int) < (L.length : Int) := by omega
    simp only [if_neg hge]
    rw [List.drop_of_length_le (by omega), wholeV]
    exact Ev.step (fun kk => compositorref17_Whole.j1.eq_2 _ _ _ _ _ _ _) (by simp only [Bool.false_eq_true, if_false]; exact Ev.now _)
  | succ d ih =>
    intro i n on out hd hi hf hn
    have hlt : i < L.length := by omega
    refine Ev.step (fun kk => compositorref17_Whole.l0.eq_2 _ _ _ _ _ _) ?_
    simp only [if_pos (show (i : Int) < (L.length : Int) by omega)]
    rw [drop_at L i hlt]
    refine Ev.step (fun kk => compositorref17_Whole.j1.eq_2 _ _ _ _ _ _ _) ?_
    by_cases hE : i < E.length
    · simp only [show decide ((i : Int) < (E.length : Int)) = true from decide_eq_true (by omega), if_true]
      rw [drop_at E i hE, wholeV]
      have hs := hS _ (List.getElem_mem hlt)
      refine ref_l1 L E i hlt hE hL hEl hs.1 hs.2 on _ L[i].length 0 n out (by omega) (by omega) hf (by omega) ?_
      exact ih (i + 1) (n + L[i].length) _ _ (by omega) (by omega) (fits_line _ _ _ _ _ _ _ hf hs.2) (by omega)
    · simp only [show decide ((i : Int) < (E.length : Int)) = false from decide_eq_false (by omega), Bool.false_eq_true, if_false]
      rw [List.drop_of_length_le (l := E) (by omega), wholeV]
      exact Ev.now _
theorem whole_f (L : List (List (List Int))) (E : List S24) (hS : Small L) (hEl : E.length ≤ 40) : Ev (fun k => piece_Whole.f k L E) (wholeV L E false []) := by
  have := prog_l0 L E hS hEl L.length 0 0 false [] (by omega) (by omega) ⟨by simp, fun x hx => by cases hx⟩ (by omega)
  unfold piece_Whole.f
  simpa using this
theorem rwhole_f (L : List (List (List Int))) (E : List S24) (hS : Small L) (hEl : E.length ≤ 40) : Ev (fun k => compositorref17_Whole.f k L E) (wholeV L E false []) := by
  have := ref_l0 L E hS hEl L.length 0 0 false [] (by omega) (by omega) ⟨by simp, fun x hx => by cases hx⟩ (by omega)
  unfold compositorref17_Whole.f
  simpa using this
theorem same04_l0 (a : List Int) (ha : a.length < 9223372036854775807) : ∀ (d i : Nat), a.length - i = d → i ≤ a.length → Ev (fun k => compositorref04_Same.l0 k a a (i : Int)) true := by
  intro d
  induction d with
  | zero =>
    intro i hd hi
    refine Ev.step (fun kk => compositorref04_Same.l0.eq_2 _ _ _ _) ?_
    simp only [if_neg (show ¬ (i : Int) < (a.length : Int) by omega)]
    exact Ev.now _
  | succ d ih =>
    intro i hd hi
    refine Ev.step (fun kk => compositorref04_Same.l0.eq_2 _ _ _ _) ?_
    simp only [if_pos (show (i : Int) < (a.length : Int) by omega), if_pos (show (0 : Int) ≤ (i : Int) by omega), if_true, wrap_nat i (by omega)]
    exact ih (i + 1) (by omega) (by omega)
theorem same04 (a : List Int) (ha : a.length < 9223372036854775807) : Ev (fun k => compositorref04_Same.f k a a) true := by
  unfold compositorref04_Same.f
  simp only [if_true]
  exact same04_l0 a ha a.length 0 (by omega) (by omega)
theorem same17_l0 (a : List (List Int)) (ha : a.length < 9223372036854775807) (hx : ∀ x ∈ a, x.length < 9223372036854775807) : ∀ (d i : Nat), a.length - i = d → i ≤ a.length → Ev (fun k => compositorref17_Same.l0 k a a (i : Int)) true := by
  intro d
  induction d with
  | zero =>
    intro i hd hi
    refine Ev.step (fun kk => compositorref17_Same.l0.eq_2 _ _ _ _) ?_
    simp only [if_neg (show ¬ (i : Int) < (a.length : Int) by omega)]
    exact Ev.now _
  | succ d ih =>
    intro i hd hi
    have hlt : i < a.length := by omega
    refine Ev.step (fun kk => compositorref17_Same.l0.eq_2 _ _ _ _) ?_
    simp only [if_pos (show (i : Int) < (a.length : Int) by omega), if_pos (show (0 : Int) ≤ (i : Int) by omega), wrap_nat i (by omega), rd_row a i hlt]
    refine Ev.bind (same04 _ (hx _ (List.getElem_mem hlt))) ?_
    simp only [if_true]
    exact ih (i + 1) (by omega) (by omega)
theorem same17 (a : List (List Int)) (ha : a.length < 9223372036854775807) (hx : ∀ x ∈ a, x.length < 9223372036854775807) : Ev (fun k => compositorref17_Same.f k a a) true := by
  unfold compositorref17_Same.f
  simp only [if_true]
  exact same17_l0 a ha hx a.length 0 (by omega) (by omega)
theorem fits_whole : ∀ (L : List (List (List Int))) (E : List S24) (on : Bool) (out : List (List Int)) (n : Nat), (∀ l ∈ L, l.length ≤ 30 ∧ ∀ p ∈ l, p.length ≤ 100) → Fits out n → Fits (wholeV L E on out) (n + 30 * L.length) := by
  intro L
  induction L with
  | nil => exact fun E on out n _ hf => by simpa [wholeV] using hf
  | cons l ls ih =>
    intro E on out n hS hf
    cases E with
    | nil => rw [wholeV]; exact fits_mono hf (by omega)
    | cons e es =>
      rw [wholeV]
      have hl := hS l List.mem_cons_self
      have := ih es (onB e.f0) _ (n + l.length) (fun x hx => hS x (List.mem_cons_of_mem _ hx)) (fits_line (hyB e.f0) on l.length l 0 n out hf hl.2)
      exact fits_mono this (by simp; omega)
end Go.Proofs.Ytepllkdlnajbjaa.L
