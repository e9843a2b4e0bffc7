/- Without rivers and ladders demerits are Knuth's and Plass's: the square of the line's penalty and badness, and of the break's penalty, by its sign, and what is told of classes, of two hyphens, and of one ahead of the last line (at most a hundred lines of a shape). -/
import Derived.Test.YtejpnfaaboicdaaLDem
import Derived.Test.YtejpnfaaboicdaaLAwake
import Derived.Test.YtejpnfaaboicdaaGStDemPlain
namespace Go.Proofs.Ytejpnfaaboicdaa.Pure
open Go.RowKit Go.Proofs.Ytejpnfaaboicdaa.G Go.Proofs.Ytejpnfaaboicdaa.L Go.Proofs.YtejpnfaaboicdaaW.PrintWords Go.Proofs.YtejpnfaaboicdaaW.PrintLast Go.Proofs.YtejpnfaaboicdaaW.PrintMore
set_option linter.unusedVariables false
set_option linter.unusedSimpArgs false
theorem tm {n m : Int} (h : 0 ≤ n) (hm : 0 < m) : 0 ≤ Int.tmod n m ∧ Int.tmod n m < m := by
  rw [Int.tmod_eq_emod_of_nonneg h]
  exact ⟨Int.emod_nonneg n (by omega), Int.emod_lt_of_pos n hm⟩
theorem and3 (n : Int) : 0 ≤ Go.bits .and .i64 n 3 ∧ Go.bits .and .i64 n 3 ≤ 3 := by
  have h : ((BitVec.ofInt 64 n) &&& (BitVec.ofInt 64 3)).toNat ≤ 3 := by
    rw [BitVec.toNat_and]
    exact Nat.and_le_right
  have e : Go.bits .and .i64 n 3 = IntKind.i64.wrap (((BitVec.ofInt 64 n) &&& (BitVec.ofInt 64 3)).toNat : Int) := rfl
  rw [e, i64_w, wrap_in (by omega) (by omega)]
  omega
theorem wf_small {n : Int} (h : 0 ≤ n ∧ n ≤ 3) : (Lit.int .i64 n).wf = true := by
  rcases (show n = 0 ∨ n = 1 ∨ n = 2 ∨ n = 3 by omega) with rfl | rfl | rfl | rfl <;> rfl
theorem j8_t (k : Nat) (x0 x1 x2 x3 : Int) (l : List S47) (x5 x6 x7 x8 x9 x10 x11 x12 x13 x14 x15 x16 x17 x18 x19 x20 : Int) (v : Int) (c hy : Bool) (yk yc yr : Int) (h16 : 0 ≤ x16 ∧ x16 ≤ 10000) (h17 : 0 ≤ x17 ∧ x17 ≤ 10000)
    (h : v = (if c = true ∧ hy = true then x16 else 0) + (if c = true ∧ yk = 5 then x17 else 0)) (hc : hy = true → c = true) : compositorlaw21_DemPlain.j8 (k + 1) true true v c hy x0 x1 x2 x3 l x5 x6 x7 x8 x9 x10 x11 x12 x13 x14 x15 x16 x17 x18 x19 x20 yk yc yr = some true := by
  rw [compositorlaw21_DemPlain.j8]
  have w1 : wrap64 (v - x16) = v - x16 := wrap_in (by subst h; split <;> split <;> omega) (by subst h; split <;> split <;> omega)
  have w2 : wrap64 (v - x17) = v - x17 := wrap_in (by subst h; split <;> split <;> omega) (by subst h; split <;> split <;> omega)
  have w3 : wrap64 ((v - x16) - x17) = (v - x16) - x17 := wrap_in (by subst h; split <;> split <;> omega) (by subst h; split <;> split <;> omega)
  rw [w1, w2, w3]
  subst h
  cases hy <;> cases c <;> by_cases e : yk = 5 <;> simp [e] at hc ⊢ <;> omega
theorem j7_t (k : Nat) (x0 x1 x2 x3 : Int) (l : List S47) (x5 x6 x7 x8 x9 x10 x11 x12 x13 x14 x15 x16 x17 x18 x19 x20 : Int) (v : Int) (c : Bool) (yk yc yr : Int) (h16 : 0 ≤ x16 ∧ x16 ≤ 10000) (h17 : 0 ≤ x17 ∧ x17 ≤ 10000)
    (h : v = (if c = true ∧ hyB yk = true then x16 else 0) + (if c = true ∧ yk = 5 then x17 else 0)) : compositorlaw21_DemPlain.j7 (k + 2) true true v c x0 x1 x2 x3 l x5 x6 x7 x8 x9 x10 x11 x12 x13 x14 x15 x16 x17 x18 x19 x20 yk yc yr = some true := by
  rw [compositorlaw21_DemPlain.j7]
  cases c with
  | false => exact j8_t k x0 x1 x2 x3 l x5 x6 x7 x8 x9 x10 x11 x12 x13 x14 x15 x16 x17 x18 x19 x20 v false false yk yc yr h16 h17 (by simpa using h) (by simp)
  | true =>
    rw [if_pos rfl]
    by_cases e : yk = 2
    · rw [if_pos e]; exact j8_t k x0 x1 x2 x3 l x5 x6 x7 x8 x9 x10 x11 x12 x13 x14 x15 x16 x17 x18 x19 x20 v true true yk yc yr h16 h17 (by rw [h]; subst e; simp [hyB]) (by simp)
    · rw [if_neg e]; exact j8_t k x0 x1 x2 x3 l x5 x6 x7 x8 x9 x10 x11 x12 x13 x14 x15 x16 x17 x18 x19 x20 v true (yk == 3) yk yc yr h16 h17 (by rw [h]; simp [hyB, e]) (by simp)
theorem j5_t (k : Nat) (x0 x1 x2 x3 : Int) (l : List S47) (x5 x6 x7 x8 x9 x10 x11 x12 x13 x14 x15 x16 x17 x18 x19 x20 : Int) (v : Int) (c : Bool) (xk xc xr yk yc yr : Int) (h15 : 0 ≤ x15 ∧ x15 ≤ 10000) (h16 : 0 ≤ x16 ∧ x16 ≤ 10000) (h17 : 0 ≤ x17 ∧ x17 ≤ 10000) (hx : 0 ≤ xc ∧ xc ≤ 3) (hy : 0 ≤ yc ∧ yc ≤ 3)
    (h : v = (if farB xc yc = true then x15 else 0) + ((if c = true ∧ hyB yk = true then x16 else 0) + (if c = true ∧ yk = 5 then x17 else 0))) : compositorlaw21_DemPlain.j5 (k + 4) true true v c x0 x1 x2 x3 l x5 x6 x7 x8 x9 x10 x11 x12 x13 x14 x15 x16 x17 x18 x19 x20 xk xc xr yk yc yr = some true := by
  rw [compositorlaw21_DemPlain.j5, wrap_in (n := xc - yc) (by omega) (by omega), wrap_in (n := yc - xc) (by omega) (by omega)]
  have w1 : wrap64 (v - x15) = v - x15 := wrap_in (by subst h; split <;> split <;> split <;> omega) (by subst h; split <;> split <;> split <;> omega)
  have e : ∀ b : Bool, farB xc yc = b → compositorlaw21_DemPlain.j6 (k + 3) true true v c b x0 x1 x2 x3 l x5 x6 x7 x8 x9 x10 x11 x12 x13 x14 x15 x16 x17 x18 x19 x20 yk yc yr = some true := by
    intro b hb
    rw [compositorlaw21_DemPlain.j6]
    rw [hb] at h
    cases b with
    | true => rw [if_pos rfl]; exact j7_t k x0 x1 x2 x3 l x5 x6 x7 x8 x9 x10 x11 x12 x13 x14 x15 x16 x17 x18 x19 x20 _ c yk yc yr h16 h17 (by rw [w1, h, if_pos rfl]; omega)
    | false => rw [if_neg (by simp)]; exact j7_t k x0 x1 x2 x3 l x5 x6 x7 x8 x9 x10 x11 x12 x13 x14 x15 x16 x17 x18 x19 x20 _ c yk yc yr h16 h17 (by rw [h, if_neg (by simp)]; omega)
  by_cases z : xc - yc > 1
  · rw [if_pos z]; exact e true (by unfold farB; simp; omega)
  · rw [if_neg z]; exact e _ (by unfold farB; simp; omega)
theorem j4_t (k : Nat) (x0 x1 x2 x3 : Int) (l : List S47) (x5 x6 x7 x8 x9 x10 x11 x12 x13 x14 x15 x16 x17 x18 x19 x20 : Int) (riv : Int) (xk xc xr yk yc yr : Int) (hok : okLay x0 x1 x2 x3 l x5 x6 x7 x8 x9 x10 x11 x12 x13 x14 x15 x16 x17 x18 x19 x20 = true) (h18 : x18 = 0) (h19 : x19 = 0) (hr : 0 ≤ riv ∧ riv ≤ 255) : compositorlaw21_DemPlain.j4 (k + 5) riv true true x0 x1 x2 x3 l x5 x6 x7 x8 x9 x10 x11 x12 x13 x14 x15 x16 x17 x18 x19 x20 xk xc xr yk yc yr = some true := by
  have hlay := okLay_iff x0 x1 x2 x3 l x5 x6 x7 x8 x9 x10 x11 x12 x13 x14 x15 x16 x17 x18 x19 x20 hok
  have hx := and3 xc
  have hy := and3 yc
  rw [compositorlaw21_DemPlain.j4, wrap_in (n := riv) (by omega) (by omega)]
  obtain ⟨xc', hxc⟩ : ∃ z, z = Go.bits .and .i64 xc 3 := ⟨_, rfl⟩
  obtain ⟨yc', hyc⟩ : ∃ z, z = Go.bits .and .i64 yc 3 := ⟨_, rfl⟩
  rw [← hxc] at hx ⊢
  rw [← hyc] at hy ⊢
  rw [pair_yes (k + 1) x0 x1 x2 x3 l x5 x6 x7 x8 x9 x10 x11 x12 x13 x14 x15 x16 x17 x18 x19 x20 xk xc' 0 yk yc' 0 riv hok hr.1 (by omega) (wf_small hx) (wf_small hy)]
  simp only [Option.bind_some]
  have e : ∀ c : Bool, hyB xk = c → compositorlaw21_DemPlain.j5 (k + 4) true true (pairV x15 x16 x17 x18 x19 xk xc' yk yc' 0 riv) c x0 x1 x2 x3 l x5 x6 x7 x8 x9 x10 x11 x12 x13 x14 x15 x16 x17 x18 x19 x20 xk xc' 0 yk yc' 0 = some true := by
    intro c hc
    refine j5_t k x0 x1 x2 x3 l x5 x6 x7 x8 x9 x10 x11 x12 x13 x14 x15 x16 x17 x18 x19 x20 _ c xk xc' 0 yk yc' 0 hlay.b15 hlay.b16 hlay.b17 hx hy ?_
    unfold pairV
    rw [hc, h18, h19]
    cases c <;> cases hyy : hyB yk <;> simp
    · rw [if_neg (hy_five yk hyy)]
      omega
  by_cases z : xk = 2
  · rw [if_pos z]; exact e true (by subst z; rfl)
  · rw [if_neg z]; exact e _ (by simp [hyB, z])
theorem j3_t (k : Nat) (x0 x1 x2 x3 : Int) (l : List S47) (x5 x6 x7 x8 x9 x10 x11 x12 x13 x14 x15 x16 x17 x18 x19 x20 : Int) (riv bad kind : Int) (xk xc xr yk yc yr : Int) (hok : okLay x0 x1 x2 x3 l x5 x6 x7 x8 x9 x10 x11 x12 x13 x14 x15 x16 x17 x18 x19 x20 = true) (h18 : x18 = 0) (h19 : x19 = 0) (hr : 0 ≤ riv ∧ riv ≤ 255) (hb : 0 ≤ bad ∧ bad ≤ 10000) : compositorlaw21_DemPlain.j3 (k + 6) riv true bad kind (pen x13 x14 kind) x0 x1 x2 x3 l x5 x6 x7 x8 x9 x10 x11 x12 x13 x14 x15 x16 x17 x18 x19 x20 xk xc xr yk yc yr = some true := by
  have hlay := okLay_iff x0 x1 x2 x3 l x5 x6 x7 x8 x9 x10 x11 x12 x13 x14 x15 x16 x17 x18 x19 x20 hok
  have h12 := hlay.b12
  rw [compositorlaw21_DemPlain.j3, own_yes (k + 3) x0 x1 x2 x3 l x5 x6 x7 x8 x9 x10 x11 x12 x13 x14 x15 x16 x17 x18 x19 x20 bad kind hok hb.1 hb.2]
  simp only [Option.bind_some]
  have hp := pen_b (kind := kind) hlay.b13 hlay.b14
  obtain ⟨p, hpe⟩ : ∃ p, p = pen x13 x14 kind := ⟨_, rfl⟩
  have e2 := sq_b (n := p) (m := 1000) (by omega) (by rw [hpe]; exact hp)
  have e1 := sq_b (n := x12 + bad) (m := 11000) (by omega) (by omega)
  have e3 := sq_mul (x12 + bad) (by omega)
  have w0 : wrap64 (x12 + bad) = x12 + bad := wrap_in (by omega) (by omega)
  unfold ownV
  rw [← hpe] at hp ⊢
  rw [w0, e3, wrap_in (n := sq (x12 + bad)) (by omega) (by omega), wrap_in (n := sq (x12 + bad) + sq p - sq (x12 + bad)) (by omega) (by omega), show sq (x12 + bad) + sq p - sq (x12 + bad) = sq p by omega]
  by_cases c : p ≥ 0
  · have e4 := sq_mul p c
    rw [if_pos c, e4, wrap_in (n := sq p) (by omega) (by omega), if_pos rfl]
    exact j4_t (k) x0 x1 x2 x3 l x5 x6 x7 x8 x9 x10 x11 x12 x13 x14 x15 x16 x17 x18 x19 x20 riv xk xc xr yk yc yr hok h18 h19 hr
  · have e5 : sq p = -p * p := by unfold sq; rw [if_pos (by omega), Int.neg_mul]
    rw [if_neg c, if_pos (by omega), wrap_in (n := -p) (by omega) (by omega), ← e5, wrap_in (n := sq p) (by omega) (by omega), beq_self_eq_true]
    exact j4_t (k) x0 x1 x2 x3 l x5 x6 x7 x8 x9 x10 x11 x12 x13 x14 x15 x16 x17 x18 x19 x20 riv xk xc xr yk yc yr hok h18 h19 hr
theorem j1_t (k : Nat) (x0 x1 x2 x3 : Int) (l : List S47) (x5 x6 x7 x8 x9 x10 x11 x12 x13 x14 x15 x16 x17 x18 x19 x20 : Int) (riv bad kind : Int) (xk xc xr yk yc yr : Int) (hok : okLay x0 x1 x2 x3 l x5 x6 x7 x8 x9 x10 x11 x12 x13 x14 x15 x16 x17 x18 x19 x20 = true) (h18 : x18 = 0) (h19 : x19 = 0) (hr : 0 ≤ riv ∧ riv ≤ 255) (hb : 0 ≤ bad ∧ bad ≤ 10000) (b : Bool) (h : b = (decide (kind = 2) || decide (kind = 3))) : compositorlaw21_DemPlain.j1 (k + 8) riv true bad kind 0 b x0 x1 x2 x3 l x5 x6 x7 x8 x9 x10 x11 x12 x13 x14 x15 x16 x17 x18 x19 x20 xk xc xr yk yc yr = some true := by
  have e := j3_t k x0 x1 x2 x3 l x5 x6 x7 x8 x9 x10 x11 x12 x13 x14 x15 x16 x17 x18 x19 x20 riv bad kind xk xc xr yk yc yr hok h18 h19 hr hb
  unfold pen at e
  rw [compositorlaw21_DemPlain.j1, compositorlaw21_DemPlain.j2, compositorlaw21_DemPlain.j2]
  by_cases c : kind = 2 ∨ kind = 3
  · have : b = true := by subst h; simpa using c
    rw [if_pos c] at e
    rw [this, if_pos rfl, if_neg (by omega)]
    exact e
  · have : b = false := by subst h; simpa using c
    rw [if_neg c] at e
    rw [this, if_neg (by simp)]
    by_cases c4 : kind = 4
    · rw [if_pos c4] at e ⊢
      exact e
    · rw [if_neg c4] at e ⊢
      exact e
theorem DemPlain : compositorlaw21_DemPlain.Pure := by
  intro a0 bad kind before now rivers _ hb hk h3 h4 hr
  refine ⟨140 + a0.f4.length + 6, ?_⟩
  have ha : compositorlaw21_awake.f (140 + a0.f4.length + 6) = some true := awake_at _ (by omega)
  have hb := bounds_u16 hb
  have hk := bounds_u8 hk
  have hr := bounds_u8 hr
  unfold compositorlaw21_DemPlain.f
  rw [ha]
  simp only [Option.bind_some]
  by_cases hl : (a0.f4.length : Int) > 100
  · rw [if_pos hl, compositorlaw21_DemPlain.j0, if_pos rfl]
  · rw [if_neg hl, rcheck 140 a0.f0 a0.f1 a0.f2 a0.f3 a0.f4 a0.f5 a0.f6 a0.f7 a0.f8 a0.f9 a0.f10 a0.f11 a0.f12 a0.f13 a0.f14 a0.f15 a0.f16 a0.f17 0 0 a0.f20]
    simp only [Option.bind_some]
    cases hok : okLay a0.f0 a0.f1 a0.f2 a0.f3 a0.f4 a0.f5 a0.f6 a0.f7 a0.f8 a0.f9 a0.f10 a0.f11 a0.f12 a0.f13 a0.f14 a0.f15 a0.f16 a0.f17 0 0 a0.f20 with
    | false => rw [compositorlaw21_DemPlain.j0]; rfl
    | true =>
      rw [compositorlaw21_DemPlain.j0, wrap_in (n := bad) (by omega) (by omega), wrap_in (n := kind) (by omega) (by omega), if_neg (show ¬ ((!true) = true) by simp)]
      obtain ⟨a, hae⟩ : ∃ a, a = Int.tmod bad 10001 := ⟨_, rfl⟩
      obtain ⟨q, hqe⟩ : ∃ q, q = Int.tmod kind 6 := ⟨_, rfl⟩
      have ha1 := tm (n := bad) (m := 10001) (by omega) (by omega)
      rw [← hae] at ha1 ⊢
      rw [← hqe]
      have j := j1_t (140 + a0.f4.length - 3) a0.f0 a0.f1 a0.f2 a0.f3 a0.f4 a0.f5 a0.f6 a0.f7 a0.f8 a0.f9 a0.f10 a0.f11 a0.f12 a0.f13 a0.f14 a0.f15 a0.f16 a0.f17 0 0 a0.f20 rivers a q before.f0 before.f1 before.f2 now.f0 now.f1 now.f2 hok rfl rfl hr ⟨by omega, by omega⟩
      rw [show 140 + a0.f4.length - 3 + 8 = 140 + a0.f4.length + 5 by omega] at j
      by_cases c : q = 2
      · rw [if_pos c]; exact j true (by simp [c])
      · rw [if_neg c]; exact j _ (by simp [c]; rfl)
end Go.Proofs.Ytejpnfaaboicdaa.Pure
