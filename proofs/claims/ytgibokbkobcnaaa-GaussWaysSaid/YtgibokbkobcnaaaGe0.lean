/- What Go functions answer, as Lean functions, and that they do: written by wip/xprint.py of this session (the kit's printer with turns, texts by hand among them). -/
import Derived.Test.YtgibokbkobcnaaaG0
namespace Go.Proofs.Ytgibokbkobcnaaa.G
open Go.RowKit Go.Proofs.YtgibokbkobcnaaaW.PrintWords Go.Proofs.YtgibokbkobcnaaaW.PrintLast Go.Proofs.YtgibokbkobcnaaaW.PrintMore
attribute [local go_sem] max2_int min2_int max_two min_two max_three min_three max_four min_four   -- for this text's walks alone
set_option linter.unusedVariables false
set_option linter.unusedSimpArgs false

theorem eqA23 (d : Nat) (w : World) (x0 y0 : Int) (x1 y1 : Int) :
    (Op.equalIn (d + 2) 23 (.agg #[.int .i64 x0, .int .i64 x1]) (.agg #[.int .i64 y0, .int .i64 y1])).run Try.prog w = .ok (x0 == y0 && (x1 == y1)) w := by
  refine eqA_of Try.underlying23 (by kernel_rfl) ?_
  refine eqf_cons (by rfl) (by go_simp; rfl) (by go_simp; rfl) (by go_simp) ?_
  exact eqf_last (by rfl) (by go_simp; rfl) (by go_simp; rfl) (by go_simp)
end Go.Proofs.Ytgibokbkobcnaaa.G
