/- What is asked at the head of each statement holds. -/
import Derived.Test.YtejpnfaaboicdaaGx7
namespace Go.Proofs.Ytejpnfaaboicdaa.L
open Go.RowKit Go.Proofs.Ytejpnfaaboicdaa.G Go.Proofs.YtejpnfaaboicdaaW.PrintWords Go.Proofs.YtejpnfaaboicdaaW.PrintLast
theorem awake_60 : compositorlaw21_awake.f 60 = some true := by decide +kernel
theorem awake_at (k : Nat) (h : 60 ≤ k) : compositorlaw21_awake.f k = some true := by
  induction k with
  | zero => omega
  | succ k ih =>
    by_cases e : k + 1 = 60
    · rw [e]; exact awake_60
    · exact compositorlaw21_awake.mono k _ (ih (by omega))
end Go.Proofs.Ytejpnfaaboicdaa.L
