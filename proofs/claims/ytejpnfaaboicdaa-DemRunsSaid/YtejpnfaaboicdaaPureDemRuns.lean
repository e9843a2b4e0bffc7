/- A run is at most 4, and grows by one from line to line with a hyphen; nothing costs less with more rivers, or a longer run (at most a hundred lines of a shape, and kinds). -/
import Derived.Test.YtejpnfaaboicdaaLDem
import Derived.Test.YtejpnfaaboicdaaLAwake
import Derived.Test.YtejpnfaaboicdaaGStDemRuns
namespace Go.Proofs.Ytejpnfaaboicdaa.Pure
open Go.RowKit Go.Proofs.Ytejpnfaaboicdaa.G Go.Proofs.Ytejpnfaaboicdaa.L Go.Proofs.YtejpnfaaboicdaaW.PrintWords Go.Proofs.YtejpnfaaboicdaaW.PrintLast Go.Proofs.YtejpnfaaboicdaaW.PrintMore
set_option linter.unusedVariables false
set_option linter.unusedSimpArgs false
theorem tm {n m : Int} (h : 0 ≤ n) (hm : 0 < m) : 0 ≤ Int.tmod n m ∧ Int.tmod n m < m := by
  rw [Int.tmod_eq_emod_of_nonneg h]
  exact ⟨Int.emod_nonneg n (by omega), Int.emod_lt_of_pos n hm⟩
theorem lad_mono (r : Int) : ladV r ≤ ladV (r + 1) := by unfold ladV; repeat' split <;> omega
theorem pair_some (k : Nat) (x0 x1 x2 x3 : Int) (l : List S47) (x5 x6 x7 x8 x9 x10 x11 x12 x13 x14 x15 x16 x17 x18 x19 x20 : Int) (bk bc br nk nc nr rivers : Int) (hbc : (Lit.int .i64 bc).wf = true) (hnc : (Lit.int .i64 nc).wf = true) :
    dem_Pair.f (k + 3) x0 x1 x2 x3 l x5 x6 x7 x8 x9 x10 x11 x12 x13 x14 x15 x16 x17 x18 x19 x20 bk bc br nk nc nr rivers = some (if okLay x0 x1 x2 x3 l x5 x6 x7 x8 x9 x10 x11 x12 x13 x14 x15 x16 x17 x18 x19 x20 = true ∧ 0 ≤ rivers ∧ rivers ≤ 1000000 then pairV x15 x16 x17 x18 x19 bk bc nk nc nr rivers else 0) := by
  by_cases h : okLay x0 x1 x2 x3 l x5 x6 x7 x8 x9 x10 x11 x12 x13 x14 x15 x16 x17 x18 x19 x20 = true ∧ 0 ≤ rivers ∧ rivers ≤ 1000000
  · rw [if_pos h]; exact pair_yes k x0 x1 x2 x3 l x5 x6 x7 x8 x9 x10 x11 x12 x13 x14 x15 x16 x17 x18 x19 x20 bk bc br nk nc nr rivers h.1 h.2.1 h.2.2 hbc hnc
  · rw [if_neg h]
    refine pair_no (k + 2) x0 x1 x2 x3 l x5 x6 x7 x8 x9 x10 x11 x12 x13 x14 x15 x16 x17 x18 x19 x20 bk bc br nk nc nr rivers ?_
    cases hk : okLay x0 x1 x2 x3 l x5 x6 x7 x8 x9 x10 x11 x12 x13 x14 x15 x16 x17 x18 x19 x20
    · exact .inl rfl
    · by_cases z : rivers < 0
      · exact .inr (.inl z)
      · by_cases y : 1000000 < rivers
        · exact .inr (.inr y)
        · exact absurd ⟨hk, by omega, by omega⟩ h
theorem one_wf : (Lit.int .i64 1).wf = true := rfl
theorem rd_b {l : List Int} (h : ∀ x ∈ l, (Lit.int .u8 x).wf = true) (i : Nat) (hi : i < l.length) : 0 ≤ rd l (i : Int) ∧ rd l (i : Int) ≤ 255 := by
  have e : rd l (i : Int) = l[i] := by
    unfold rd
    rw [Int.toNat_natCast, List.getD_eq_getElem?_getD, List.getElem?_eq_getElem hi]
    rfl
  rw [e]
  exact bounds_u8 (h _ (List.getElem_mem hi))
theorem j3_t (k : Nat) (x0 x1 x2 x3 : Int) (l : List S47) (x5 x6 x7 x8 x9 x10 x11 x12 x13 x14 x15 x16 x17 x18 x19 x20 : Int) (l1 : List Int) (n m : Int) (hn : 0 ≤ n ∧ n ≤ 255) (hm : 0 ≤ m ∧ m ≤ 255) (i : Nat) (hw1 : wrap64 ((i : Int) + 1) = ((i + 1 : Nat) : Int)) (sk sc kd run2 r4 : Int) (hsc : (Lit.int .i64 sc).wf = true) (h0 : 0 ≤ run2)
    (hnext : compositorlaw21_DemRuns.l0 (k + 6) l1 n m true run2 ((i + 1 : Nat) : Int) x0 x1 x2 x3 l x5 x6 x7 x8 x9 x10 x11 x12 x13 x14 x15 x16 x17 x18 x19 x20 kd 1 (mn run2 4) = some true) :
    compositorlaw21_DemRuns.j3 (k + 7) l1 n m true run2 (i : Int) x0 x1 x2 x3 l x5 x6 x7 x8 x9 x10 x11 x12 x13 x14 x15 x16 x17 x18 x19 x20 sk sc r4 kd 1 (mn run2 4) = some true := by
  have hmn : 0 ≤ mn run2 4 ∧ mn run2 4 ≤ 4 := by unfold mn; split <;> omega
  have w1 := wrap_in (n := n) (by omega) (by omega)
  have w2 := wrap_in (n := m) (by omega) (by omega)
  have w3 := wrap_in (n := n + m) (by omega) (by omega)
  have w4 := wrap_in (n := mn run2 4 + 1) (by omega) (by omega)
  have g1 : n ≤ 1000000 := by omega
  have g2 : 0 ≤ n + m := by omega
  have g3 : n + m ≤ 1000000 := by omega
  rw [compositorlaw21_DemRuns.j3, w1, w2, w3, w4, hw1]
  cases hok : okLay x0 x1 x2 x3 l x5 x6 x7 x8 x9 x10 x11 x12 x13 x14 x15 x16 x17 x18 x19 x20 with
  | true =>
    have hlay := okLay_iff x0 x1 x2 x3 l x5 x6 x7 x8 x9 x10 x11 x12 x13 x14 x15 x16 x17 x18 x19 x20 hok
    have a1 := mul_b hlay.b18 hn
    have a2 := mul_b hlay.b18 hm
    have a3 := mul_b hlay.b19 (ladV_b (mn run2 4))
    have a4 : x19 * ladV (mn run2 4) ≤ x19 * ladV (mn run2 4 + 1) := Int.mul_le_mul_of_nonneg_left (lad_mono _) hlay.b19.1
    have h15 := hlay.b15
    have h16 := hlay.b16
    have h17 := hlay.b17
    have a5 : x18 * (n + m) = x18 * n + x18 * m := Int.mul_add _ _ _
    have c0 : 0 ≤ pairV x15 x16 x17 x18 x19 sk sc kd 1 (mn run2 4) n := by
      unfold pairV
      repeat' split
      all_goals omega
    have c1 : pairV x15 x16 x17 x18 x19 sk sc kd 1 (mn run2 4) n ≤ pairV x15 x16 x17 x18 x19 sk sc kd 1 (mn run2 4) (n + m) := by
      unfold pairV
      rw [a5]
      omega
    have c2 : pairV x15 x16 x17 x18 x19 sk sc kd 1 (mn run2 4) n ≤ pairV x15 x16 x17 x18 x19 sk sc kd 1 (mn run2 4 + 1) n := by
      unfold pairV
      omega
    rw [pair_yes (k + 3) x0 x1 x2 x3 l x5 x6 x7 x8 x9 x10 x11 x12 x13 x14 x15 x16 x17 x18 x19 x20 sk sc r4 kd 1 (mn run2 4) n hok hn.1 g1 hsc one_wf, pair_yes (k + 3) x0 x1 x2 x3 l x5 x6 x7 x8 x9 x10 x11 x12 x13 x14 x15 x16 x17 x18 x19 x20 sk sc r4 kd 1 (mn run2 4) (n + m) hok g2 g3 hsc one_wf, pair_yes (k + 3) x0 x1 x2 x3 l x5 x6 x7 x8 x9 x10 x11 x12 x13 x14 x15 x16 x17 x18 x19 x20 sk sc r4 kd 1 (mn run2 4 + 1) n hok hn.1 g1 hsc one_wf]
    simp only [Option.bind_some]
    rw [if_pos trivial, if_neg (Int.not_lt.2 c1), if_neg (Int.not_lt.2 c2), if_neg (Int.not_lt.2 c0)]
    exact hnext
  | false =>
    rw [pair_no (k + 5) x0 x1 x2 x3 l x5 x6 x7 x8 x9 x10 x11 x12 x13 x14 x15 x16 x17 x18 x19 x20 sk sc r4 kd 1 (mn run2 4) n (.inl hok), pair_no (k + 5) x0 x1 x2 x3 l x5 x6 x7 x8 x9 x10 x11 x12 x13 x14 x15 x16 x17 x18 x19 x20 sk sc r4 kd 1 (mn run2 4) (n + m) (.inl hok), pair_no (k + 5) x0 x1 x2 x3 l x5 x6 x7 x8 x9 x10 x11 x12 x13 x14 x15 x16 x17 x18 x19 x20 sk sc r4 kd 1 (mn run2 4 + 1) n (.inl hok)]
    simp only [Option.bind_some]
    rw [if_pos trivial, if_neg (by decide), if_neg (by decide), if_neg (by decide)]
    exact hnext
theorem round (k : Nat) (x0 x1 x2 x3 : Int) (l : List S47) (x5 x6 x7 x8 x9 x10 x11 x12 x13 x14 x15 x16 x17 x18 x19 x20 : Int) (l1 : List Int) (hl1 : l1.length ≤ 100) (hw : ∀ x ∈ l1, (Lit.int .u8 x).wf = true) (n m : Int) (hn : 0 ≤ n ∧ n ≤ 255) (hm : 0 ≤ m ∧ m ≤ 255) (d : Nat) :
    ∀ (i : Nat) (run sk sc : Int), i ≤ l1.length → l1.length - i = d → 0 ≤ run → run ≤ i → (Lit.int .i64 sc).wf = true → compositorlaw21_DemRuns.l0 (k + 3 * d + 6) l1 n m true run (i : Int) x0 x1 x2 x3 l x5 x6 x7 x8 x9 x10 x11 x12 x13 x14 x15 x16 x17 x18 x19 x20 sk sc (mn run 4) = some true := by
  induction d with
  | zero =>
    intro i run sk sc hi hd hr0 hr1 hsc
    rw [compositorlaw21_DemRuns.l0, if_neg (by omega)]
  | succ d ih =>
    intro i run sk sc hi hd hr0 hr1 hsc
    have hlt : i < l1.length := by omega
    have hi' : i + 1 ≤ l1.length := hlt
    have hd' : l1.length - (i + 1) = d := by omega
    have hci : (i : Int) + 1 = ((i + 1 : Nat) : Int) := by simp
    have hw1 : wrap64 ((i : Int) + 1) = ((i + 1 : Nat) : Int) := by unfold wrap64; omega
    have hrd := rd_b hw i hlt
    have hkd := tm (n := rd l1 i) (m := 6) (by omega) (by omega)
    have e0 : k + 3 * (d + 1) + 6 = (k + 3 * d + 6) + 3 := by omega
    rw [e0, compositorlaw21_DemRuns.l0, if_pos (by omega), if_pos (by omega), next_f, wrap_in (n := Int.tmod (rd l1 i) 6) (by omega) (by omega)]
    simp only [Option.bind_some]
    obtain ⟨kd, hkde⟩ : ∃ kd, kd = Int.tmod (rd l1 i) 6 := ⟨_, rfl⟩
    rw [← hkde]
    have j3 : ∀ (run2 : Int), 0 ≤ run2 → run2 ≤ (i : Int) + 1 → (nextV (mn run 4) kd 1).2.2 = mn run2 4 →
        compositorlaw21_DemRuns.j3 (k + 3 * d + 7) l1 n m true run2 (i : Int) x0 x1 x2 x3 l x5 x6 x7 x8 x9 x10 x11 x12 x13 x14 x15 x16 x17 x18 x19 x20 sk sc (mn run 4) (nextV (mn run 4) kd 1).1 (nextV (mn run 4) kd 1).2.1 (nextV (mn run 4) kd 1).2.2 = some true := by
      intro run2 h0 h1 he
      have hc1 : (nextV (mn run 4) kd 1).2.1 = 1 := by unfold nextV; split <;> rfl
      have hc0 : (nextV (mn run 4) kd 1).1 = kd := by unfold nextV; split <;> rfl
      rw [hc0, hc1, he]
      exact j3_t (k + 3 * d) x0 x1 x2 x3 l x5 x6 x7 x8 x9 x10 x11 x12 x13 x14 x15 x16 x17 x18 x19 x20 l1 n m hn hm i hw1 sk sc kd run2 (mn run 4) hsc h0 (ih (i + 1) run2 kd 1 hi' hd' h0 (hci ▸ h1) one_wf)
    have hy : ∀ b : Bool, hyB kd = b → compositorlaw21_DemRuns.j2 (k + 3 * d + 8) l1 n m true run (i : Int) b x0 x1 x2 x3 l x5 x6 x7 x8 x9 x10 x11 x12 x13 x14 x15 x16 x17 x18 x19 x20 sk sc (mn run 4) (nextV (mn run 4) kd 1).1 (nextV (mn run 4) kd 1).2.1 (nextV (mn run 4) kd 1).2.2 = some true := by
      intro b hb
      rw [compositorlaw21_DemRuns.j2]
      cases b with
      | true =>
        rw [if_pos rfl, wrap_in (by omega) (by omega)]
        refine j3 (run + 1) (by omega) (by omega) ?_
        unfold nextV runV
        rw [if_pos hb]
        show (if 4 ≤ mn run 4 then 4 else if 1 ≤ mn run 4 then mn run 4 + 1 else 1) = mn (run + 1) 4
        unfold mn
        repeat' split
        all_goals omega
      | false =>
        rw [if_neg (show ¬ (false = true) by simp)]
        refine j3 0 (by omega) (by omega) ?_
        unfold nextV
        rw [if_neg (by rw [hb]; simp)]
        rfl
    by_cases h2 : kd = 2
    · rw [if_pos h2]
      exact hy true (by rw [h2]; rfl)
    · rw [if_neg h2]
      exact hy (kd == 3) (by unfold hyB; simp [h2])
theorem DemRuns : compositorlaw21_DemRuns.Pure := by
  intro a0 l1 n m _ hl1 hn hm
  obtain ⟨_, _, hw⟩ := hl1
  have hn := bounds_u8 hn
  have hm := bounds_u8 hm
  refine ⟨140 + 3 * l1.length + 7, ?_⟩
  have ha : compositorlaw21_awake.f (140 + 3 * l1.length + 7) = some true := awake_at _ (by omega)
  unfold compositorlaw21_DemRuns.f
  rw [ha]
  simp only [Option.bind_some]
  by_cases hl : (a0.f4.length : Int) > 100
  · rw [if_pos hl, compositorlaw21_DemRuns.j0, if_pos rfl]
  · rw [if_neg hl, compositorlaw21_DemRuns.j0]
    by_cases h2 : (l1.length : Int) > 100
    · rw [if_pos (by simp; omega)]
    · rw [if_neg (by simp; omega)]
      unfold dem_First.f
      simp only [Option.bind_some]
      exact round 140 a0.f0 a0.f1 a0.f2 a0.f3 a0.f4 a0.f5 a0.f6 a0.f7 a0.f8 a0.f9 a0.f10 a0.f11 a0.f12 a0.f13 a0.f14 a0.f15 a0.f16 a0.f17 a0.f18 a0.f19 a0.f20 l1 (by omega) hw n m hn hm l1.length 0 0 0 1 (by omega) (by omega) (by omega) (by omega) one_wf
end Go.Proofs.Ytejpnfaaboicdaa.Pure
