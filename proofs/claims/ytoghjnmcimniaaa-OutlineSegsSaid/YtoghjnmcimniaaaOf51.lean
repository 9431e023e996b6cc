/- What Go functions answer, as Lean functions, and that they do: written by wip/xprint.py of this session (the kit's printer with turns, texts by hand among them). -/
import Derived.Test.YtoghjnmcimniaaaO0
import Derived.Test.YtoghjnmcimniaaaOd0
namespace Go.Proofs.Ytoghjnmcimniaaa.O
open Go.RowKit Go.Proofs.YtoghjnmcimniaaaW.PrintWords Go.Proofs.YtoghjnmcimniaaaW.PrintLast Go.Proofs.YtoghjnmcimniaaaW.PrintMore
attribute [local go_sem] max2_int min2_int max_two min_two max_three min_three max_four min_four   -- for this text's walks alone
set_option linter.unusedVariables false
set_option linter.unusedSimpArgs false

/-! ### calamusref11_half: function 51 -/
set_option maxHeartbeats 8000000 in
set_option maxRecDepth 100000 in
theorem calamusref11_half.calls (a0 : Int) (a1 : Int) (r : Int) (w : World) (h : calamusref11_half.f a0 a1 = some r) :
    Calls Try.prog 51 #[.int .i64 a0, .int .i64 a1] w fun e w' => e = .returned (.int .i64 r) ∧ Drawn0 w w' := by
  have H : (if (wrap64 ((wrap64 ((wrap64 (a0 - (wrap64 (2 * (wrap64 (Int.tdiv a0 2)))))) + a1)) - (wrap64 (2 * (wrap64 (Int.tdiv a1 2)))))) = 2 then (some (wrap64 ((wrap64 ((wrap64 (Int.tdiv a0 2)) + (wrap64 (Int.tdiv a1 2)))) + 1))) else (if (wrap64 ((wrap64 ((wrap64 (a0 - (wrap64 (2 * (wrap64 (Int.tdiv a0 2)))))) + a1)) - (wrap64 (2 * (wrap64 (Int.tdiv a1 2)))))) < 0 then (some (wrap64 ((wrap64 ((wrap64 (Int.tdiv a0 2)) + (wrap64 (Int.tdiv a1 2)))) - 1))) else (some (wrap64 ((wrap64 (Int.tdiv a0 2)) + (wrap64 (Int.tdiv a1 2))))))) = some r := h
  clear h
  by_cases c3 : (wrap64 ((wrap64 ((wrap64 (a0 - (wrap64 (2 * (wrap64 (Int.tdiv a0 2)))))) + a1)) - (wrap64 (2 * (wrap64 (Int.tdiv a1 2)))))) = 2
  · rw [if_pos c3] at H
    have c3b0 : ((wrap64 ((wrap64 ((wrap64 (a0 - (wrap64 (2 * (wrap64 (Int.tdiv a0 2)))))) + a1)) - (wrap64 (2 * (wrap64 (Int.tdiv a1 2)))))) == 2) = true := beq_iff_eq.mpr c3
    have c3b1 : ((wrap64 ((wrap64 ((wrap64 (a0 - (wrap64 (2 * (wrap64 (Int.tdiv a0 2)))))) + a1)) - (wrap64 (2 * (wrap64 (Int.tdiv a1 2)))))) != 2) = false := bne_eq_false_iff_eq.mpr c3
    clear c3
    obtain rfl := Option.some.inj H
    go_enter Try.func51, Try.ntmps51
    go_wp2
    go_ret
    exact ⟨by first | rfl | (simp; done) | (simp [*]; done), by repeat (first | exact Drawn0.refl _ | apply Drawn0.step)⟩
  · rw [if_neg c3] at H
    have c3b0 : ((wrap64 ((wrap64 ((wrap64 (a0 - (wrap64 (2 * (wrap64 (Int.tdiv a0 2)))))) + a1)) - (wrap64 (2 * (wrap64 (Int.tdiv a1 2)))))) == 2) = false := beq_eq_false_iff_ne.mpr c3
    have c3b1 : ((wrap64 ((wrap64 ((wrap64 (a0 - (wrap64 (2 * (wrap64 (Int.tdiv a0 2)))))) + a1)) - (wrap64 (2 * (wrap64 (Int.tdiv a1 2)))))) != 2) = true := bne_iff_ne.mpr c3
    by_cases c4 : (wrap64 ((wrap64 ((wrap64 (a0 - (wrap64 (2 * (wrap64 (Int.tdiv a0 2)))))) + a1)) - (wrap64 (2 * (wrap64 (Int.tdiv a1 2)))))) < 0
    · rw [if_pos c4] at H
      have c4b0 : decide ((wrap64 ((wrap64 ((wrap64 (a0 - (wrap64 (2 * (wrap64 (Int.tdiv a0 2)))))) + a1)) - (wrap64 (2 * (wrap64 (Int.tdiv a1 2)))))) < 0) = true := decide_eq_true c4
      clear c4
      obtain rfl := Option.some.inj H
      go_enter Try.func51, Try.ntmps51
      go_wp2
      go_ret
      exact ⟨by first | rfl | (simp; done) | (simp [*]; done), by repeat (first | exact Drawn0.refl _ | apply Drawn0.step)⟩
    · rw [if_neg c4] at H
      have c4b0 : decide ((wrap64 ((wrap64 ((wrap64 (a0 - (wrap64 (2 * (wrap64 (Int.tdiv a0 2)))))) + a1)) - (wrap64 (2 * (wrap64 (Int.tdiv a1 2)))))) < 0) = false := decide_eq_false c4
      clear c4
      obtain rfl := Option.some.inj H
      go_enter Try.func51, Try.ntmps51
      go_wp2
      go_ret
      exact ⟨by first | rfl | (simp; done) | (simp [*]; done), by repeat (first | exact Drawn0.refl _ | apply Drawn0.step)⟩

end Go.Proofs.Ytoghjnmcimniaaa.O
