/- What Go functions answer, as Lean functions, and that they do: written by wip/xprint.py of this session (the kit's printer with turns, texts by hand among them). -/
import Derived.Test.YtoghjnmcimniaaaQ0
import Derived.Test.YtoghjnmcimniaaaQd0
namespace Go.Proofs.Ytoghjnmcimniaaa.Q
open Go.RowKit Go.Proofs.YtoghjnmcimniaaaW.PrintWords Go.Proofs.YtoghjnmcimniaaaW.PrintLast Go.Proofs.YtoghjnmcimniaaaW.PrintMore
attribute [local go_sem] max2_int min2_int max_two min_two max_three min_three max_four min_four   -- for this text's walks alone
set_option linter.unusedVariables false
set_option linter.unusedSimpArgs false

/-! ### calamuslaw13_Piece_seg: function 38 -/
-- CALLS
set_option maxHeartbeats 1000000 in
theorem calamuslaw13_Piece_seg.calls (a0_0 : Int) (a0_1 : Int) (a0_2 : Int) (a0_3 : Int) (a0_4 : Int) (a0_5 : Int) (a0_6 : Bool) (r1 : Int) (r2 : Int) (r3 : Int) (r4 : Int) (r5 : Int) (r6 : Int) (r7 : Bool) (w : World) (h : calamuslaw13_Piece_seg.f a0_0 a0_1 a0_2 a0_3 a0_4 a0_5 a0_6 = some (r1, r2, r3, r4, r5, r6, r7)) :
    Calls Try.prog 38 #[.agg #[.int .i32 a0_0, .int .i32 a0_1, .int .i32 a0_2, .int .i32 a0_3, .int .i32 a0_4, .int .i32 a0_5, .bool a0_6]] w fun e w' => e = .returned (.agg #[.int .i64 r1, .int .i64 r2, .int .i64 r3, .int .i64 r4, .int .i64 r5, .int .i64 r6, .bool r7]) ∧ Below w.heap.size w w' := by
  have hi0 : ∀ (b o : Nat) (W : World), (Instr.indexAt 61 (.pointer (some ⟨b, o, none⟩)) (.int .i64 0)).run Try.prog W = .ok (.pointer (some ⟨b, o, none⟩)) W := fun _ _ _ => rfl
  have hi1 : ∀ (b o : Nat) (W : World), (Instr.indexAt 61 (.pointer (some ⟨b, o, none⟩)) (.int .i64 1)).run Try.prog W = .ok (.pointer (some ⟨b, o + 1, none⟩)) W := fun _ _ _ => rfl
  have hu1 := Try.underlying63
  have hu2 := Try.underlying37
  have hu3 := Try.underlying33
  unfold calamuslaw13_Piece_seg.f at h
  cases a0_6 with
  | true =>
    rw [if_pos rfl] at h
    simp only [Option.some.injEq, Prod.mk.injEq] at h
    obtain ⟨rfl, rfl, rfl, rfl, rfl, rfl, rfl⟩ := h
    go_enter Try.func38, Try.ntmps38
    go_wp2_with fail
    refine bodyPost_ret (results_cell_row rfl _ _ (w.heap.size + 1) 37 #[.int .i64 (wrap64 a0_0 / 2048), .int .i64 (wrap64 a0_1 / 2048), .int .i64 (wrap64 a0_2 / 2048), .int .i64 (wrap64 a0_3 / 2048), .int .i64 (wrap64 a0_4 / 2048), .int .i64 (wrap64 a0_5 / 2048), .bool true] (0, 0) _ rfl (blk_alloc (Aid.blk_top _ _ _ (by simp)) _) Try.underlying37 rfl (by kernel_rfl)) rfl ?_
    exact ⟨rfl, below_alloc (below_alloc (below_alloc (Below.refl _ _) _) _) _⟩
  | false =>
    rw [if_neg (by simp)] at h
    simp only [Option.some.injEq, Prod.mk.injEq] at h
    obtain ⟨rfl, rfl, rfl, rfl, rfl, rfl, rfl⟩ := h
    go_enter Try.func38, Try.ntmps38
    go_wp2_with fail
    refine bodyPost_ret (results_cell_row rfl _ _ (w.heap.size + 1) 37 #[.int .i64 (wrap64 a0_0 / 2048), .int .i64 (wrap64 a0_1 / 2048), .int .i64 0, .int .i64 0, .int .i64 (wrap64 a0_4 / 2048), .int .i64 (wrap64 a0_5 / 2048), .bool false] (0, 0) _ rfl (blk_alloc (Aid.blk_top _ _ _ (by simp)) _) Try.underlying37 rfl (by kernel_rfl)) rfl ?_
    exact ⟨rfl, below_alloc (below_alloc (below_alloc (Below.refl _ _) _) _) _⟩

end Go.Proofs.Ytoghjnmcimniaaa.Q
