/- For every number, size and bytes: numbers are taken as pack put them, and bytes put as they were taken (at most a thousand bytes). -/
import Derived.Test.YtlkoaiogdkmglaaLBack
import Derived.Test.YtlkoaiogdkmglaaGx16
namespace Go.Proofs.Ytlkoaiogdkmglaa.Pure
open Go.RowKit Go.Proofs.Ytlkoaiogdkmglaa.G Go.Proofs.Ytlkoaiogdkmglaa.L Go.Proofs.YtlkoaiogdkmglaaW.PrintWords Go.Proofs.YtlkoaiogdkmglaaW.PrintLast
set_option linter.unusedVariables false
set_option linter.unusedSimpArgs false
theorem int32_be {n : Int} (h : -2147483648 ≤ n ∧ n < 2147483648) : sg (val 0 (be (n % 4294967296) 4)) = n := by
  rw [val_be _ 4 (by omega) (by omega) (by omega) (by simp; omega)]
  unfold sg
  split <;> omega
theorem back_j0 (n : Int) (b : List Int) (z : Nat) (hn : 0 ≤ n ∧ n < 4294967296) (hb : ∀ x ∈ b, 0 ≤ x ∧ x < 256) (hl : b.length ≤ 1000) (h1 : 1 ≤ z) (h4 : z ≤ 4) :
    compositorlaw06_PackBack.j0 41 n b true z = some true := by
  rw [compositorlaw06_PackBack.j0]
  have hi : -2147483648 ≤ wrap32 n ∧ wrap32 n < 2147483648 := by unfold wrap32; omega
  have ei : wrap64 (wrap32 n) = wrap32 n := w64 (by omega) (by omega)
  have p1 := putfix 30 [] (wrap32 n) (by simp)
  rw [if_pos hi] at p1
  have l1 := be_len (wrap32 n % 4294967296) 4
  have t1 := takefix_ok 30 (be (wrap32 n % 4294967296) 4 ++ b) (by simp [l1]) (by
    intro x hx
    rcases List.mem_append.1 hx with hx | hx
    · exact be_bytes _ _ x hx
    · exact hb x hx) (by simp [l1]; omega)
  rw [List.take_left' l1, List.drop_left' l1, int32_be hi] at t1
  simp only [Nat.reduceAdd, List.nil_append] at p1 t1
  rw [ei, p1]
  simp only [Option.bind_some, List.nil_append, List.length_nil, Nat.zero_add, l1]
  rw [if_pos (by omega), if_pos (by omega), t1]
  simp only [Option.bind_some]
  by_cases hz : (z : Int) ≤ b.length
  · have t2 := take_ok 30 b z h1 h4 (by omega) hb (by omega)
    have hv := val_bound (b.take z) 0 (fun x hx => hb x (List.mem_of_mem_take hx)) (by omega)
    have hlt : (b.take z).length = z := by simp; omega
    rw [hlt] at hv
    have p2 := put_ok 30 [] (val 0 (b.take z)) z h1 h4 hv.1 (by omega) (by simp)
    rw [be_val (b.take z) z hlt h1 h4 (fun x hx => hb x (List.mem_of_mem_take hx))] at p2
    simp only [Nat.reduceAdd, List.nil_append] at p2 t2
    rw [t2]
    simp only [Option.bind_some]
    rw [p2]
    simp only [Option.bind_some, if_true, hlt]
    rw [if_pos (by omega), if_pos (by simp; omega), List.take_append_drop, decide_eq_true (show (b.length : Int) ≥ z from hz)]
    simp
  · have t2 := take_no 30 b z (Or.inr (by omega))
    have p2 := put_ok 30 [] 0 z h1 h4 (by omega) (pow_le h4).1 (by simp)
    simp only [Nat.reduceAdd, List.nil_append] at p2 t2
    rw [t2]
    simp only [Option.bind_some]
    rw [p2]
    simp only [Option.bind_some]
    rw [if_neg (by decide), decide_eq_false (show ¬ (b.length : Int) ≥ z from hz)]
    rfl
theorem PackBack : compositorlaw06_PackBack.Pure := by
  intro n s b wn ws _ _ wb
  have un := u32_of wn
  have hb := wf_bytes wb
  obtain ⟨z, hz, h1, h4⟩ := sizes (u8_of ws)
  refine ⟨41, ?_⟩
  have ha : compositorlaw06_awake.f 41 = some true := by decide +kernel
  have ea : wrap64 n = n := w64 (by omega) (by omega)
  unfold compositorlaw06_PackBack.f
  rw [ha, hz, ea]
  simp only [Option.bind_some]
  by_cases hl : (b.length : Int) > 1000
  · rw [if_pos hl]
  · rw [if_neg hl]
    have pa := put_or 31 [] n z h1 h4 un.1 (by simp)
    have hj := back_j0 n b z un hb (by omega) h1 h4
    simp only [Nat.reduceAdd, List.nil_append] at pa
    rw [pa]
    by_cases hn : n < 256 ^ z
    · have l1 := be_len n z
      have t1 := take_ok 31 (be n z ++ b) z h1 h4 (by simp [l1]) (by
        intro x hx
        rcases List.mem_append.1 hx with hx | hx
        · exact be_bytes _ _ x hx
        · exact hb x hx) (by simp [l1]; omega)
      rw [List.take_left' l1, List.drop_left' l1, val_be n z h1 h4 un.1 hn] at t1
      simp only [Nat.reduceAdd] at t1
      rw [if_pos hn]
      simp only [Option.bind_some, if_true, List.length_nil, List.nil_append, Nat.zero_add, l1]
      rw [if_pos (by omega), if_pos (by omega), t1]
      simp only [Option.bind_some, if_true]
      exact hj
    · rw [if_neg hn]
      simp only [Option.bind_some]
      rw [if_neg (by decide)]
      exact hj
end Go.Proofs.Ytlkoaiogdkmglaa.Pure
