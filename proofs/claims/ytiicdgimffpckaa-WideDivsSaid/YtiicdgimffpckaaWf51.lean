/- What Go functions answer, as Lean functions, and that they do: written by wip/xprint.py of this session (the kit's printer with turns, texts by hand among them). -/
import Derived.Test.YtiicdgimffpckaaW0
import Derived.Test.YtiicdgimffpckaaWd0
import Derived.Test.YtiicdgimffpckaaWf50
namespace Go.Proofs.Ytiicdgimffpckaa.W
open Go.RowKit Go.Proofs.YtiicdgimffpckaaW.PrintWords Go.Proofs.YtiicdgimffpckaaW.PrintLast Go.Proofs.YtiicdgimffpckaaW.PrintMore
attribute [local go_sem] max2_int min2_int max_two min_two max_three min_three max_four min_four   -- for this text's walks alone
set_option linter.unusedVariables false
set_option linter.unusedSimpArgs false

/-! ### calamusref01_with: function 51 -/
-- CALLS
set_option maxHeartbeats 16000000 in
set_option maxRecDepth 100000 in
theorem calamusref01_with.calls (a0_0 a0_1 a0_2 a0_3 a0_4 a0_5 a0_6 a0_7 : Int) (a1 : Int) (r1 r2 r3 r4 r5 r6 r7 r8 : Int) (w : World) (h : calamusref01_with.f a0_0 a0_1 a0_2 a0_3 a0_4 a0_5 a0_6 a0_7 a1 = some (r1, r2, r3, r4, r5, r6, r7, r8)) :
    Calls Try.prog 51 #[.agg #[.int .u32 a0_0, .int .u32 a0_1, .int .u32 a0_2, .int .u32 a0_3, .int .u32 a0_4, .int .u32 a0_5, .int .u32 a0_6, .int .u32 a0_7], .int .i64 a1] w fun e w' => e = .returned (.agg #[.int .u32 r1, .int .u32 r2, .int .u32 r3, .int .u32 r4, .int .u32 r5, .int .u32 r6, .int .u32 r7, .int .u32 r8]) ∧ Below w.heap.size w w' := by
  have hu1 := Try.underlying34
  have hu2 := Try.underlying32
  have hu3 := Try.underlying3
  unfold calamusref01_with.f at h
  split at h
  · rename_i hb
    simp only [Option.some.injEq, Prod.mk.injEq] at h
    obtain ⟨rfl, rfl, rfl, rfl, rfl, rfl, rfl, rfl⟩ := h
    obtain ⟨h0, h1⟩ := hb
    obtain ⟨p, hp, hp0, hp1⟩ := calamusref01_bit.pow (a1 % 16).toNat (by omega)
    have hpz : (p = 0) = False := eq_false (by omega)
    have hqq : a1 / 16 = 0 ∨ a1 / 16 = 1 ∨ a1 / 16 = 2 ∨ a1 / 16 = 3 ∨ a1 / 16 = 4 ∨ a1 / 16 = 5 ∨ a1 / 16 = 6 ∨ a1 / 16 = 7 := by omega
    unfold calamusref01_with.up
    rw [← hp1]
    clear hp1
    rcases hqq with hq | hq | hq | hq | hq | hq | hq | hq
    · have hx := calamusref01_bit.addr 0 (by omega)
      simp only [hq, Int.reduceEq, if_true, if_false]
      go_enter Try.func51, Try.ntmps51
      go_wp2
      refine bodyPost_ret (results_cell_row rfl _ _ (w.heap.size + 1) 34 #[.int .u32 ((a0_0 + p) % 4294967296), .int .u32 a0_1, .int .u32 a0_2, .int .u32 a0_3, .int .u32 a0_4, .int .u32 a0_5, .int .u32 a0_6, .int .u32 a0_7] (0, 0) _ rfl (Aid.blk_top _ _ _ (by simp)) Try.underlying34 rfl (by kernel_rfl)) rfl ?_
      exact ⟨rfl, by first | exact below_alloc (below_set (below_alloc (Below.refl _ _) _) (Nat.le_refl _)) _ | exact below_alloc (below_alloc (Below.refl _ _) _) _⟩
    · have hx := calamusref01_bit.addr 1 (by omega)
      simp only [hq, Int.reduceEq, if_true, if_false]
      go_enter Try.func51, Try.ntmps51
      go_wp2
      refine bodyPost_ret (results_cell_row rfl _ _ (w.heap.size + 1) 34 #[.int .u32 a0_0, .int .u32 ((a0_1 + p) % 4294967296), .int .u32 a0_2, .int .u32 a0_3, .int .u32 a0_4, .int .u32 a0_5, .int .u32 a0_6, .int .u32 a0_7] (0, 0) _ rfl (Aid.blk_top _ _ _ (by simp)) Try.underlying34 rfl (by kernel_rfl)) rfl ?_
      exact ⟨rfl, by first | exact below_alloc (below_set (below_alloc (Below.refl _ _) _) (Nat.le_refl _)) _ | exact below_alloc (below_alloc (Below.refl _ _) _) _⟩
    · have hx := calamusref01_bit.addr 2 (by omega)
      simp only [hq, Int.reduceEq, if_true, if_false]
      go_enter Try.func51, Try.ntmps51
      go_wp2
      refine bodyPost_ret (results_cell_row rfl _ _ (w.heap.size + 1) 34 #[.int .u32 a0_0, .int .u32 a0_1, .int .u32 ((a0_2 + p) % 4294967296), .int .u32 a0_3, .int .u32 a0_4, .int .u32 a0_5, .int .u32 a0_6, .int .u32 a0_7] (0, 0) _ rfl (Aid.blk_top _ _ _ (by simp)) Try.underlying34 rfl (by kernel_rfl)) rfl ?_
      exact ⟨rfl, by first | exact below_alloc (below_set (below_alloc (Below.refl _ _) _) (Nat.le_refl _)) _ | exact below_alloc (below_alloc (Below.refl _ _) _) _⟩
    · have hx := calamusref01_bit.addr 3 (by omega)
      simp only [hq, Int.reduceEq, if_true, if_false]
      go_enter Try.func51, Try.ntmps51
      go_wp2
      refine bodyPost_ret (results_cell_row rfl _ _ (w.heap.size + 1) 34 #[.int .u32 a0_0, .int .u32 a0_1, .int .u32 a0_2, .int .u32 ((a0_3 + p) % 4294967296), .int .u32 a0_4, .int .u32 a0_5, .int .u32 a0_6, .int .u32 a0_7] (0, 0) _ rfl (Aid.blk_top _ _ _ (by simp)) Try.underlying34 rfl (by kernel_rfl)) rfl ?_
      exact ⟨rfl, by first | exact below_alloc (below_set (below_alloc (Below.refl _ _) _) (Nat.le_refl _)) _ | exact below_alloc (below_alloc (Below.refl _ _) _) _⟩
    · have hx := calamusref01_bit.addr 4 (by omega)
      simp only [hq, Int.reduceEq, if_true, if_false]
      go_enter Try.func51, Try.ntmps51
      go_wp2
      refine bodyPost_ret (results_cell_row rfl _ _ (w.heap.size + 1) 34 #[.int .u32 a0_0, .int .u32 a0_1, .int .u32 a0_2, .int .u32 a0_3, .int .u32 ((a0_4 + p) % 4294967296), .int .u32 a0_5, .int .u32 a0_6, .int .u32 a0_7] (0, 0) _ rfl (Aid.blk_top _ _ _ (by simp)) Try.underlying34 rfl (by kernel_rfl)) rfl ?_
      exact ⟨rfl, by first | exact below_alloc (below_set (below_alloc (Below.refl _ _) _) (Nat.le_refl _)) _ | exact below_alloc (below_alloc (Below.refl _ _) _) _⟩
    · have hx := calamusref01_bit.addr 5 (by omega)
      simp only [hq, Int.reduceEq, if_true, if_false]
      go_enter Try.func51, Try.ntmps51
      go_wp2
      refine bodyPost_ret (results_cell_row rfl _ _ (w.heap.size + 1) 34 #[.int .u32 a0_0, .int .u32 a0_1, .int .u32 a0_2, .int .u32 a0_3, .int .u32 a0_4, .int .u32 ((a0_5 + p) % 4294967296), .int .u32 a0_6, .int .u32 a0_7] (0, 0) _ rfl (Aid.blk_top _ _ _ (by simp)) Try.underlying34 rfl (by kernel_rfl)) rfl ?_
      exact ⟨rfl, by first | exact below_alloc (below_set (below_alloc (Below.refl _ _) _) (Nat.le_refl _)) _ | exact below_alloc (below_alloc (Below.refl _ _) _) _⟩
    · have hx := calamusref01_bit.addr 6 (by omega)
      simp only [hq, Int.reduceEq, if_true, if_false]
      go_enter Try.func51, Try.ntmps51
      go_wp2
      refine bodyPost_ret (results_cell_row rfl _ _ (w.heap.size + 1) 34 #[.int .u32 a0_0, .int .u32 a0_1, .int .u32 a0_2, .int .u32 a0_3, .int .u32 a0_4, .int .u32 a0_5, .int .u32 ((a0_6 + p) % 4294967296), .int .u32 a0_7] (0, 0) _ rfl (Aid.blk_top _ _ _ (by simp)) Try.underlying34 rfl (by kernel_rfl)) rfl ?_
      exact ⟨rfl, by first | exact below_alloc (below_set (below_alloc (Below.refl _ _) _) (Nat.le_refl _)) _ | exact below_alloc (below_alloc (Below.refl _ _) _) _⟩
    · have hx := calamusref01_bit.addr 7 (by omega)
      simp only [hq, Int.reduceEq, if_true, if_false]
      go_enter Try.func51, Try.ntmps51
      go_wp2
      refine bodyPost_ret (results_cell_row rfl _ _ (w.heap.size + 1) 34 #[.int .u32 a0_0, .int .u32 a0_1, .int .u32 a0_2, .int .u32 a0_3, .int .u32 a0_4, .int .u32 a0_5, .int .u32 a0_6, .int .u32 ((a0_7 + p) % 4294967296)] (0, 0) _ rfl (Aid.blk_top _ _ _ (by simp)) Try.underlying34 rfl (by kernel_rfl)) rfl ?_
      exact ⟨rfl, by first | exact below_alloc (below_set (below_alloc (Below.refl _ _) _) (Nat.le_refl _)) _ | exact below_alloc (below_alloc (Below.refl _ _) _) _⟩
  · cases h

end Go.Proofs.Ytiicdgimffpckaa.W
