/- Written by a program of this session (xprint.py) out of the translation. What is proved, in the end: the Go law GroupPages answers true at every input, and its arguments read behind the call as before; no condition. -/
import Derived.Test.YtignifnkjlldpaaPGroupPagesx0
namespace Go.Proofs.Ytignifnkjlldpaa.PGroupPages
open Go.RowKit Go.Proofs.YtignifnkjlldpaaW.PrintWords Go.Proofs.YtignifnkjlldpaaW.PrintLast Go.Proofs.YtignifnkjlldpaaW.PrintMore
attribute [local go_sem] max2_int min2_int max_two min_two max_three min_three max_four min_four   -- for this text's walks alone
set_option linter.unusedVariables false
set_option linter.unusedSimpArgs false

theorem eqA100 (d : Nat) (w : World) (x0 y0 : Int) (x1 y1 : Int) :
    (Op.equalIn (d + 2) 100 (.agg #[.int .u16 x0, .int .u16 x1]) (.agg #[.int .u16 y0, .int .u16 y1])).run Try.prog w = .ok (x0 == y0 && (x1 == y1)) w := by
  refine eqA_of Try.underlying100 (by kernel_rfl) ?_
  refine eqf_cons (by rfl) (by go_simp; rfl) (by go_simp; rfl) (by go_simp) ?_
  exact eqf_last (by rfl) (by go_simp; rfl) (by go_simp; rfl) (by go_simp)
end Go.Proofs.Ytignifnkjlldpaa.PGroupPages
