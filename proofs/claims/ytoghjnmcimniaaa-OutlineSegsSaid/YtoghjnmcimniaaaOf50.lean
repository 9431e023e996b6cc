/- What Go functions answer, as Lean functions, and that they do: written by wip/xprint.py of this session (the kit's printer with turns, texts by hand among them). -/
import Derived.Test.YtoghjnmcimniaaaO0
import Derived.Test.YtoghjnmcimniaaaOd0
namespace Go.Proofs.Ytoghjnmcimniaaa.O
open Go.RowKit Go.Proofs.YtoghjnmcimniaaaW.PrintWords Go.Proofs.YtoghjnmcimniaaaW.PrintLast Go.Proofs.YtoghjnmcimniaaaW.PrintMore
attribute [local go_sem] max2_int min2_int max_two min_two max_three min_three max_four min_four   -- for this text's walks alone
set_option linter.unusedVariables false
set_option linter.unusedSimpArgs false

/-! ### outline_half: function 50 -/
set_option maxHeartbeats 8000000 in
set_option maxRecDepth 100000 in
theorem outline_half.calls (a0 : Int) (a1 : Int) (r : Int) (w : World) (h : outline_half.f a0 a1 = some r) :
    Calls Try.prog 50 #[.int .i64 a0, .int .i64 a1] w fun e w' => e = .returned (.int .i64 r) ∧ Drawn0 w w' := by
  have H : (some (wrap64 ((wrap64 ((a0 / 2) + (a1 / 2))) + (Go.bits .and .i64 (Go.bits .and .i64 a0 a1) 1)))) = some r := h
  clear h
  obtain rfl := Option.some.inj H
  go_enter Try.func50, Try.ntmps50
  go_wp2
  go_ret
  exact ⟨by first | rfl | (simp; done) | (simp [*]; done), by repeat (first | exact Drawn0.refl _ | apply Drawn0.step)⟩

end Go.Proofs.Ytoghjnmcimniaaa.O
