/- What Go functions answer, as Lean functions, and that they do: written by wip/xprint.py of this session (the kit's printer with turns, texts by hand among them). -/
import Derived.Test.YtiicdgimffpckaaW0
import Derived.Test.YtiicdgimffpckaaWd0
namespace Go.Proofs.Ytiicdgimffpckaa.W
open Go.RowKit Go.Proofs.YtiicdgimffpckaaW.PrintWords Go.Proofs.YtiicdgimffpckaaW.PrintLast Go.Proofs.YtiicdgimffpckaaW.PrintMore
attribute [local go_sem] max2_int min2_int max_two min_two max_three min_three max_four min_four   -- for this text's walks alone
set_option linter.unusedVariables false
set_option linter.unusedSimpArgs false

/-! ### wide_Add: function 32 -/
-- CALLS
theorem wide_Add.run (x y c : Int) (hx : 0 ≤ x) (hy : 0 ≤ y) (hc0 : 0 ≤ c) (hc : c ≤ 1) (W : World) :
    (callFunc 53 #[.int .u64 x, .int .u64 y, .int .u64 c]).run Try.prog W = .ok (.value (.tuple #[.int .u64 ((x + y + c) % 18446744073709551616), .int .u64 ((x + y + c) / 18446744073709551616)])) W := by
  rw [run_callFunc_extern (e := add64Entry) Try.func53 (by kernel_rfl) (by kernel_rfl) (by kernel_rfl) (by kernel_rfl), run_add64 x y c hx hy hc0 hc W]
  rfl
theorem wide_Add.u_w (x : Int) : IntKind.u64.wrap x = x % 18446744073709551616 := IntKind.wrap_u64 x
set_option maxHeartbeats 4000000 in
theorem wide_Add.calls (a0_0 : Int) (a0_1 : Int) (a1_0 : Int) (a1_1 : Int) (r1 : Int) (r2 : Int) (w : World) (h : wide_Add.f a0_0 a0_1 a1_0 a1_1 = some (r1, r2)) :
    Calls Try.prog 32 #[.agg #[.int .i64 a0_0, .int .u64 a0_1], .agg #[.int .i64 a1_0, .int .u64 a1_1]] w fun e w' => e = .returned (.agg #[.int .i64 r1, .int .u64 r2]) ∧ Below w.heap.size w w' := by
  have hu1 := Try.underlying28
  have hu2 := Try.underlying2
  have hu3 := Try.underlying22
  unfold wide_Add.f at h
  split at h
  · rename_i hb
    obtain ⟨rfl, rfl⟩ := Prod.mk.inj (Option.some.inj h)
    have e1 := wide_Add.run a0_1 a1_1 0 hb.1 hb.2.2.1 (Int.le_refl _) (by omega)
    have e2 := wide_Add.run (a0_0 % 18446744073709551616) (a1_0 % 18446744073709551616) ((a0_1 + a1_1 + 0) / 18446744073709551616) (by omega) (by omega) (by omega) (by omega)
    rw [Int.add_zero] at e1 e2
    clear hb h
    have hg1 : IntKind.u64.wrap a0_0 = a0_0 % 18446744073709551616 := IntKind.wrap_u64 _
    have hg2 : IntKind.u64.wrap a1_0 = a1_0 % 18446744073709551616 := IntKind.wrap_u64 _
    generalize hA : (a0_1 + a1_1) / 18446744073709551616 = c at *
    generalize hB : (a0_1 + a1_1) % 18446744073709551616 = lo at *
    generalize hC : a0_0 % 18446744073709551616 = ua at *
    generalize hD : a1_0 % 18446744073709551616 = ub at *
    generalize hE : (ua + ub + c) % 18446744073709551616 = hi at *
    clear hA hB hC hD hE
    go_enter Try.func32, Try.ntmps32
    go_wp2
    refine bodyPost_ret (results_cell_row rfl _ _ (w.heap.size + 1 + 1) 28 #[.int .i64 (wrap64 hi), .int .u64 lo] (0, 0) _ rfl (Aid.blk_top _ _ _ (by simp)) Try.underlying28 rfl (by kernel_rfl)) rfl ?_
    exact ⟨rfl, below_alloc (below_alloc (below_alloc (Below.refl _ _) _) _) _⟩
  · cases h

end Go.Proofs.Ytiicdgimffpckaa.W
