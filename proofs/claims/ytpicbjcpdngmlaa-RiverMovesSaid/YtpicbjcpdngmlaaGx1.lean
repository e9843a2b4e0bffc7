/- Contracts of the functions of this seat: what each call computes, as a plain Lean function. Made by this session's own generator. -/
import Derived.Test.YtpicbjcpdngmlaaGx0
namespace Go.Proofs.Ytpicbjcpdngmlaa.G
open Go.RowKit Go.Proofs.YtpicbjcpdngmlaaMy Go.Proofs.YtpicbjcpdngmlaaW.PrintWords Go.Proofs.YtpicbjcpdngmlaaW.PrintLast Go.Proofs.YtpicbjcpdngmlaaW.PrintMore
attribute [local go_sem] max2_int min2_int max_two min_two max_three min_three max_four min_four   -- for this text's walks alone
set_option linter.unusedVariables false
set_option linter.unusedSimpArgs false

theorem eqA36 (d : Nat) (w : World) (x0 y0 : Int) (x1 y1 : Int) :
    (Op.equalIn (d + 2) 36 (.agg #[.int .i64 x0, .int .i64 x1]) (.agg #[.int .i64 y0, .int .i64 y1])).run Try.prog w = .ok (x0 == y0 && (x1 == y1)) w := by
 have hu := Try.underlying36
 have hu3 := Try.underlying3
 rw [Op.equalIn]
 go_simp
 simp only [show List.range' 0 2 = [0, 1] from rfl, List.forIn_cons, List.forIn_nil]
 go_simp
 cases hx : (x0 == y0)
 · go_simp
   intro h
   rw [h] at hx
   simp at hx
 · go_simp
   rw [if_pos (beq_iff_eq.1 hx)]
   by_cases h1 : x1 = y1 <;> simp [h1]
end Go.Proofs.Ytpicbjcpdngmlaa.G
