/- Layouts: whether one may be, as one Bool; the program's and the reference's check both tell it. -/
import Derived.Test.YtejpnfaaboicdaaGx2
import Derived.Test.YtejpnfaaboicdaaGx9
namespace Go.Proofs.Ytejpnfaaboicdaa.L
open Go.RowKit Go.Proofs.Ytejpnfaaboicdaa.G Go.Proofs.YtejpnfaaboicdaaMy Go.Proofs.YtejpnfaaboicdaaW.PrintWords Go.Proofs.YtejpnfaaboicdaaW.PrintLast Go.Proofs.YtejpnfaaboicdaaW.PrintMore
set_option linter.unusedVariables false
set_option linter.unusedSimpArgs false
def inB (n a b : Int) : Bool := decide (a ≤ n) && decide (n ≤ b)
theorem inB_iff {n a b : Int} : inB n a b = true ↔ a ≤ n ∧ n ≤ b := by simp [inB]
theorem in_f (n a b : Int) : compositorref14_in.f n a b = some (inB n a b) := by
  unfold compositorref14_in.f inB
  by_cases h : a ≤ n
  · rw [if_pos (show n ≥ a from h)]; simp [h]
  · rw [if_neg (show ¬ n ≥ a from h)]; simp [h]
def lineB (x : S47) : Bool := inB x.f0 0 67108864 && inB x.f1 1 67108864
def okLay (x0 x1 x2 x3 : Int) (l : List S47) (x5 x6 x7 x8 x9 x10 x11 x12 x13 x14 x15 x16 x17 x18 x19 x20 : Int) : Bool :=
  inB x0 1 67108864 && (inB x1 0 4194304 && (inB x2 0 4194304 && (inB x3 0 4194304 && (decide ((l.length : Int) ≤ 40) && (inB x5 (1 - x0) (x0 - 1) && (inB x6 (-100) 100 && (inB x7 0 40 && (inB x8 0 40 && (inB x9 (-1) 10000 && (inB x10 0 10000 && (inB x11 0 67108864 && (inB x12 0 1000 && (inB x13 (-1000) 1000 && (inB x14 (-1000) 1000 && (inB x20 (-5) 5 && (inB x15 0 10000 && (inB x16 0 10000 && (inB x17 0 10000 && (inB x18 0 10000 && (inB x19 0 10000 && l.all lineB))))))))))))))))))))
theorem inR1 (a b n : Int) : inR a b [n] = inB n a b := by
  unfold inR inB
  by_cases h1 : a ≤ n <;> by_cases h2 : n ≤ b <;> simp [h1, h2, Int.not_lt, Int.not_le] <;> omega
theorem inR_cons (a b n : Int) (l : List Int) : inR a b (n :: l) = (inB n a b && inR a b l) := by
  have : inR a b (n :: l) = (inR a b [n] && inR a b l) := by
    unfold inR
    simp [Bool.not_or]
  rw [this, inR1]
theorem inR_nil (a b : Int) : inR a b [] = true := rfl
theorem wrap_in {n : Int} (h1 : -9223372036854775808 ≤ n) (h2 : n ≤ 9223372036854775807) : wrap64 n = n := by unfold wrap64; omega
theorem lines_any (l : List S47) : (!(l.any fun x => !inR 0 67108864 [x.f0] || !inR 1 67108864 [x.f1])) = l.all lineB := by
  induction l with
  | nil => rfl
  | cons x l ih =>
    simp only [List.any_cons, List.all_cons, ← ih, inR1, lineB]
    cases inB x.f0 0 67108864 <;> cases inB x.f1 1 67108864 <;> simp
theorem pcheck (x0 x1 x2 x3 : Int) (l : List S47) (x5 x6 x7 x8 x9 x10 x11 x12 x13 x14 x15 x16 x17 x18 x19 x20 : Int) : param_Check.f x0 x1 x2 x3 l x5 x6 x7 x8 x9 x10 x11 x12 x13 x14 x15 x16 x17 x18 x19 x20 = some (okLay x0 x1 x2 x3 l x5 x6 x7 x8 x9 x10 x11 x12 x13 x14 x15 x16 x17 x18 x19 x20) := by
  unfold param_Check.f okLay
  congr 1
  by_cases h0 : inB x0 1 67108864 = true
  · have hb := inB_iff.1 h0
    rw [wrap_in (n := 1 - x0) (by omega) (by omega), wrap_in (n := x0 - 1) (by omega) (by omega), lines_any]
    have h40 : (!decide ((40 : Int) < (l.length : Int))) = decide ((l.length : Int) ≤ 40) := by
      by_cases h : (l.length : Int) ≤ 40
      · simp [h]
      · simp [h]; omega
    rw [h40]
    simp only [inR_cons, inR_nil, Bool.and_true, Bool.and_assoc]
  · rw [inR1]
    rw [Bool.not_eq_true] at h0
    rw [h0]
    rfl
theorem ite_and {α : Type} (f : Bool → α) (b c : Bool) : (if b = true then f c else f false) = f (b && c) := by cases b <;> rfl
theorem rd_line (l : List S47) (i : Nat) (h : i < l.length) : rd_T47 l (i : Int) = l[i] := by
  unfold rd_T47
  rw [Int.toNat_natCast, List.getD_eq_getElem?_getD, List.getElem?_eq_getElem h]
  rfl
theorem loop0 (k : Nat) (x0 x1 x2 x3 : Int) (l : List S47) (x5 x6 x7 x8 x9 x10 x11 x12 x13 x14 x15 x16 x17 x18 x19 x20 : Int) (hl : l.length ≤ 1000) (d : Nat) : ∀ (i : Nat), i ≤ l.length → l.length - i = d → compositorref14_Check.l0 (k + d + 1) (i : Int) x0 x1 x2 x3 l x5 x6 x7 x8 x9 x10 x11 x12 x13 x14 x15 x16 x17 x18 x19 x20 = some ((l.drop i).all lineB) := by
  induction d with
  | zero =>
    intro i hi hd
    simp only [Nat.add_zero, compositorref14_Check.l0]
    rw [if_neg (by omega), List.drop_of_length_le (by omega)]
    rfl
  | succ d ih =>
    intro i hi hd
    have hlt : i < l.length := by omega
    have hb : wrap64 ((i : Int) + 1) = ((i + 1 : Nat) : Int) := by unfold wrap64; omega
    have hd2 : (l.drop i).all lineB = (lineB l[i] && (l.drop (i + 1)).all lineB) := by rw [List.drop_eq_getElem_cons hlt]; rfl
    have e : k + (d + 1) + 1 = (k + d + 1) + 1 := by omega
    rw [e, compositorref14_Check.l0, if_pos (by omega), if_pos (by omega), in_f, rd_line l i hlt, hd2]
    simp only [Option.bind_some, in_f, hb]
    rw [ih (i + 1) (by omega) (by omega)]
    unfold lineB
    cases inB l[i].f0 0 67108864 with
    | false => rfl
    | true =>
      cases inB l[i].f1 1 67108864 with
      | false => rfl
      | true => rfl
theorem rj4 (k : Nat) (b : Bool) (x0 x1 x2 x3 : Int) (l : List S47) (x5 x6 x7 x8 x9 x10 x11 x12 x13 x14 x15 x16 x17 x18 x19 x20 : Int) (hl : b = false → l.length ≤ 1000) : compositorref14_Check.j4 (k + l.length + 2) b x0 x1 x2 x3 l x5 x6 x7 x8 x9 x10 x11 x12 x13 x14 x15 x16 x17 x18 x19 x20 = some (!b && l.all lineB) := by
  rw [compositorref14_Check.j4]
  cases b with
  | true => rfl
  | false =>
    have h := loop0 k x0 x1 x2 x3 l x5 x6 x7 x8 x9 x10 x11 x12 x13 x14 x15 x16 x17 x18 x19 x20 (hl rfl) l.length 0 (by omega) (by omega)
    rw [if_neg (by simp)]
    exact h
theorem rj3 (k : Nat) (b c d e : Bool) (x0 x1 x2 x3 : Int) (l : List S47) (x5 x6 x7 x8 x9 x10 x11 x12 x13 x14 x15 x16 x17 x18 x19 x20 : Int) (hl : b = true → l.length ≤ 1000) : compositorref14_Check.j3 (k + l.length + 3) b c d e x0 x1 x2 x3 l x5 x6 x7 x8 x9 x10 x11 x12 x13 x14 x15 x16 x17 x18 x19 x20 = some (b && (c && (d && (e && l.all lineB)))) := by
  rw [compositorref14_Check.j3]
  have h1 := rj4 k true x0 x1 x2 x3 l x5 x6 x7 x8 x9 x10 x11 x12 x13 x14 x15 x16 x17 x18 x19 x20 (by simp)
  cases b with
  | false => exact h1
  | true =>
    have h2 := fun (b : Bool) => rj4 k b x0 x1 x2 x3 l x5 x6 x7 x8 x9 x10 x11 x12 x13 x14 x15 x16 x17 x18 x19 x20 (fun _ => hl rfl)
    cases c with
    | false => exact h1
    | true =>
      cases d with
      | false => exact h1
      | true =>
        rw [if_pos rfl, if_pos rfl, if_pos rfl, h2]
        simp
theorem chain5 {α : Type} (f : Bool → α) (a b c d e : Bool) : (if a = true then (if b = true then (if c = true then (if d = true then f e else f false) else f false) else f false) else f false) = f (a && (b && (c && (d && e)))) := by
  cases a <;> first | rfl | (cases b <;> first | rfl | (cases c <;> first | rfl | (cases d <;> rfl)))
theorem chain4 {α : Type} (f : Bool → α) (a b c d : Bool) : (if a = true then (if b = true then (if c = true then f d else f false) else f false) else f false) = f (a && (b && (c && d))) := by
  cases a <;> first | rfl | (cases b <;> first | rfl | (cases c <;> rfl))
theorem chain7 {α : Type} (f : Bool → α) (a b c d e g h : Bool) : (if a = true then (if b = true then (if c = true then (if d = true then (if e = true then (if g = true then f h else f false) else f false) else f false) else f false) else f false) else f false) = f (a && (b && (c && (d && (e && (g && h)))))) := by
  cases a <;> first | rfl | (cases b <;> first | rfl | (cases c <;> first | rfl | (cases d <;> first | rfl | (cases e <;> first | rfl | (cases g <;> rfl)))))
theorem rj2 (k : Nat) (b c d : Bool) (x0 x1 x2 x3 : Int) (l : List S47) (x5 x6 x7 x8 x9 x10 x11 x12 x13 x14 x15 x16 x17 x18 x19 x20 : Int) (hl : b = true → l.length ≤ 1000) : compositorref14_Check.j2 (k + l.length + 4) b c d x0 x1 x2 x3 l x5 x6 x7 x8 x9 x10 x11 x12 x13 x14 x15 x16 x17 x18 x19 x20 = some (b && (c && (d && ((inB x15 0 10000 && (inB x16 0 10000 && (inB x17 0 10000 && (inB x18 0 10000 && inB x19 0 10000)))) && l.all lineB)))) := by
  rw [compositorref14_Check.j2]
  simp only [in_f, Option.bind_some]
  exact (chain5 (fun t => compositorref14_Check.j3 (k + l.length + 3) b c d t x0 x1 x2 x3 l x5 x6 x7 x8 x9 x10 x11 x12 x13 x14 x15 x16 x17 x18 x19 x20) _ _ _ _ _).trans (rj3 k _ _ _ _ x0 x1 x2 x3 l x5 x6 x7 x8 x9 x10 x11 x12 x13 x14 x15 x16 x17 x18 x19 x20 hl)
theorem rj1 (k : Nat) (b c : Bool) (x0 x1 x2 x3 : Int) (l : List S47) (x5 x6 x7 x8 x9 x10 x11 x12 x13 x14 x15 x16 x17 x18 x19 x20 : Int) (hl : b = true → l.length ≤ 1000) : compositorref14_Check.j1 (k + l.length + 5) b c x0 x1 x2 x3 l x5 x6 x7 x8 x9 x10 x11 x12 x13 x14 x15 x16 x17 x18 x19 x20 = some (b && (c && ((inB x12 0 1000 && (inB x13 (-1000) 1000 && (inB x14 (-1000) 1000 && inB x20 (-5) 5))) && ((inB x15 0 10000 && (inB x16 0 10000 && (inB x17 0 10000 && (inB x18 0 10000 && inB x19 0 10000)))) && l.all lineB)))) := by
  rw [compositorref14_Check.j1]
  simp only [in_f, Option.bind_some]
  exact (chain4 (fun t => compositorref14_Check.j2 (k + l.length + 4) b c t x0 x1 x2 x3 l x5 x6 x7 x8 x9 x10 x11 x12 x13 x14 x15 x16 x17 x18 x19 x20) _ _ _ _).trans (rj2 k _ _ _ x0 x1 x2 x3 l x5 x6 x7 x8 x9 x10 x11 x12 x13 x14 x15 x16 x17 x18 x19 x20 hl)
theorem rj0 (k : Nat) (b : Bool) (x0 x1 x2 x3 : Int) (l : List S47) (x5 x6 x7 x8 x9 x10 x11 x12 x13 x14 x15 x16 x17 x18 x19 x20 : Int) (hl : b = true → l.length ≤ 1000) : compositorref14_Check.j0 (k + l.length + 6) b x0 x1 x2 x3 l x5 x6 x7 x8 x9 x10 x11 x12 x13 x14 x15 x16 x17 x18 x19 x20 = some (b && ((inB x5 (wrap64 (1 - x0)) (wrap64 (x0 - 1)) && (inB x6 (-100) 100 && (inB x7 0 40 && (inB x8 0 40 && (inB x9 (-1) 10000 && (inB x10 0 10000 && inB x11 0 67108864)))))) && ((inB x12 0 1000 && (inB x13 (-1000) 1000 && (inB x14 (-1000) 1000 && inB x20 (-5) 5))) && ((inB x15 0 10000 && (inB x16 0 10000 && (inB x17 0 10000 && (inB x18 0 10000 && inB x19 0 10000)))) && l.all lineB)))) := by
  rw [compositorref14_Check.j0]
  simp only [in_f, Option.bind_some]
  exact (chain7 (fun t => compositorref14_Check.j1 (k + l.length + 5) b t x0 x1 x2 x3 l x5 x6 x7 x8 x9 x10 x11 x12 x13 x14 x15 x16 x17 x18 x19 x20) _ _ _ _ _ _ _).trans (rj1 k _ _ x0 x1 x2 x3 l x5 x6 x7 x8 x9 x10 x11 x12 x13 x14 x15 x16 x17 x18 x19 x20 hl)
theorem rcheck (k : Nat) (x0 x1 x2 x3 : Int) (l : List S47) (x5 x6 x7 x8 x9 x10 x11 x12 x13 x14 x15 x16 x17 x18 x19 x20 : Int) : compositorref14_Check.f (k + l.length + 6) x0 x1 x2 x3 l x5 x6 x7 x8 x9 x10 x11 x12 x13 x14 x15 x16 x17 x18 x19 x20 = some (okLay x0 x1 x2 x3 l x5 x6 x7 x8 x9 x10 x11 x12 x13 x14 x15 x16 x17 x18 x19 x20) := by
  rw [compositorref14_Check.f]
  simp only [in_f, Option.bind_some]
  refine (chain5 (fun t => compositorref14_Check.j0 (k + l.length + 6) t x0 x1 x2 x3 l x5 x6 x7 x8 x9 x10 x11 x12 x13 x14 x15 x16 x17 x18 x19 x20) _ _ _ _ _).trans ?_
  refine (rj0 k _ x0 x1 x2 x3 l x5 x6 x7 x8 x9 x10 x11 x12 x13 x14 x15 x16 x17 x18 x19 x20 ?_).trans ?_
  · intro h
    simp only [Bool.and_eq_true, decide_eq_true_eq] at h
    omega
  · congr 1
    unfold okLay
    by_cases h0 : inB x0 1 67108864 = true
    · have hb := inB_iff.1 h0
      rw [wrap_in (n := 1 - x0) (by omega) (by omega), wrap_in (n := x0 - 1) (by omega) (by omega)]
      simp only [Bool.and_assoc]
    · rw [Bool.not_eq_true] at h0
      rw [h0]
      rfl
structure OkLay (x0 x1 x2 x3 : Int) (l : List S47) (x5 x6 x7 x8 x9 x10 x11 x12 x13 x14 x15 x16 x17 x18 x19 x20 : Int) : Prop where
  b0 : 1 ≤ x0 ∧ x0 ≤ 67108864
  b1 : 0 ≤ x1 ∧ x1 ≤ 4194304
  b2 : 0 ≤ x2 ∧ x2 ≤ 4194304
  b3 : 0 ≤ x3 ∧ x3 ≤ 4194304
  b4 : (l.length : Int) ≤ 40
  b5 : 1 - x0 ≤ x5 ∧ x5 ≤ x0 - 1
  b6 : -100 ≤ x6 ∧ x6 ≤ 100
  b7 : 0 ≤ x7 ∧ x7 ≤ 40
  b8 : 0 ≤ x8 ∧ x8 ≤ 40
  b12 : 0 ≤ x12 ∧ x12 ≤ 1000
  b13 : -1000 ≤ x13 ∧ x13 ≤ 1000
  b14 : -1000 ≤ x14 ∧ x14 ≤ 1000
  b15 : 0 ≤ x15 ∧ x15 ≤ 10000
  b16 : 0 ≤ x16 ∧ x16 ≤ 10000
  b17 : 0 ≤ x17 ∧ x17 ≤ 10000
  b18 : 0 ≤ x18 ∧ x18 ≤ 10000
  b19 : 0 ≤ x19 ∧ x19 ≤ 10000
  all : ∀ x ∈ l, (0 ≤ x.f0 ∧ x.f0 ≤ 67108864) ∧ 1 ≤ x.f1 ∧ x.f1 ≤ 67108864
theorem okLay_iff (x0 x1 x2 x3 : Int) (l : List S47) (x5 x6 x7 x8 x9 x10 x11 x12 x13 x14 x15 x16 x17 x18 x19 x20 : Int) (h : okLay x0 x1 x2 x3 l x5 x6 x7 x8 x9 x10 x11 x12 x13 x14 x15 x16 x17 x18 x19 x20 = true) : OkLay x0 x1 x2 x3 l x5 x6 x7 x8 x9 x10 x11 x12 x13 x14 x15 x16 x17 x18 x19 x20 := by
  unfold okLay at h
  simp only [Bool.and_eq_true, inB_iff, decide_eq_true_eq, List.all_eq_true, lineB] at h
  obtain ⟨h0, h1, h2, h3, h4, h5, h6, h7, h8, h9, h10, h11, h12, h13, h14, h20, h15, h16, h17, h18, h19, hl⟩ := h
  exact ⟨h0, h1, h2, h3, h4, h5, h6, h7, h8, h12, h13, h14, h15, h16, h17, h18, h19, hl⟩
end Go.Proofs.Ytejpnfaaboicdaa.L
