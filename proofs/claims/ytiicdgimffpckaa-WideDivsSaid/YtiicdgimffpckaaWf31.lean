/- What Go functions answer, as Lean functions, and that they do: written by wip/xprint.py of this session (the kit's printer with turns, texts by hand among them). -/
import Derived.Test.YtiicdgimffpckaaW0
import Derived.Test.YtiicdgimffpckaaWd0
namespace Go.Proofs.Ytiicdgimffpckaa.W
open Go.RowKit Go.Proofs.YtiicdgimffpckaaW.PrintWords Go.Proofs.YtiicdgimffpckaaW.PrintLast Go.Proofs.YtiicdgimffpckaaW.PrintMore
attribute [local go_sem] max2_int min2_int max_two min_two max_three min_three max_four min_four   -- for this text's walks alone
set_option linter.unusedVariables false
set_option linter.unusedSimpArgs false

/-! ### wide_Sub: function 31 -/
-- CALLS
def wide_Sub.entry : Array Value → Sem Value := fun args => do
  let (x, y, b) ← Extern.MathBitsCarry.three "Sub64" args
  pure (Extern.MathBitsCarry.pair ((x + Extern.MathBitsCarry.m64 - y - b) % Extern.MathBitsCarry.m64) (if x < y + b then 1 else 0))
theorem wide_Sub.run_ext (x y c : Int) (hx : 0 ≤ x) (hy : 0 ≤ y) (hy2 : y < 18446744073709551616) (hc0 : 0 ≤ c) (hc : c ≤ 1) (w : World) :
    (wide_Sub.entry #[.int .u64 x, .int .u64 y, .int .u64 c]).run Try.prog w =
      .ok (.tuple #[.int .u64 ((x + 18446744073709551616 - y - c) % 18446744073709551616), .int .u64 (if x < y + c then 1 else 0)]) w := by
  have key : ∀ k : Nat, k ≤ 1 → (wide_Sub.entry #[.int .u64 x, .int .u64 y, .int .u64 (k : Int)]).run Try.prog w =
      .ok (Extern.MathBitsCarry.pair ((x.toNat + Extern.MathBitsCarry.m64 - y.toNat - k) % Extern.MathBitsCarry.m64) (if x.toNat < y.toNat + k then 1 else 0)) w := by
    intro k hk
    have : k = 0 ∨ k = 1 := by omega
    rcases this with rfl | rfl <;> rfl
  obtain ⟨k, rfl⟩ := Int.eq_ofNat_of_zero_le hc0
  rw [key k (by omega)]
  obtain ⟨X, rfl⟩ := Int.eq_ofNat_of_zero_le hx
  obtain ⟨Y, rfl⟩ := Int.eq_ofNat_of_zero_le hy
  simp only [Extern.MathBitsCarry.pair, Extern.MathBitsCarry.m64, Int.toNat_natCast]
  congr 4
  · simp
    omega
  · by_cases hlt : X < Y + k
    · rw [if_pos hlt, if_pos (by omega)]; rfl
    · rw [if_neg hlt, if_neg (by omega)]; rfl
theorem wide_Sub.run (x y c : Int) (hx : 0 ≤ x) (hy : 0 ≤ y) (hy2 : y < 18446744073709551616) (hc0 : 0 ≤ c) (hc : c ≤ 1) (W : World) :
    (callFunc 52 #[.int .u64 x, .int .u64 y, .int .u64 c]).run Try.prog W = .ok (.value (.tuple #[.int .u64 ((x + 18446744073709551616 - y - c) % 18446744073709551616), .int .u64 (if x < y + c then 1 else 0)])) W := by
  rw [run_callFunc_extern (e := wide_Sub.entry) Try.func52 (by kernel_rfl) (by kernel_rfl) (by kernel_rfl) (by kernel_rfl), wide_Sub.run_ext x y c hx hy hy2 hc0 hc W]
  rfl
set_option maxHeartbeats 4000000 in
theorem wide_Sub.calls (a0_0 : Int) (a0_1 : Int) (a1_0 : Int) (a1_1 : Int) (r1 : Int) (r2 : Int) (w : World) (h : wide_Sub.f a0_0 a0_1 a1_0 a1_1 = some (r1, r2)) :
    Calls Try.prog 31 #[.agg #[.int .i64 a0_0, .int .u64 a0_1], .agg #[.int .i64 a1_0, .int .u64 a1_1]] w fun e w' => e = .returned (.agg #[.int .i64 r1, .int .u64 r2]) ∧ Below w.heap.size w w' := by
  have hu1 := Try.underlying28
  have hu2 := Try.underlying2
  have hu3 := Try.underlying22
  unfold wide_Sub.f at h
  split at h
  · rename_i hb
    obtain ⟨rfl, rfl⟩ := Prod.mk.inj (Option.some.inj h)
    have e1 := wide_Sub.run a0_1 a1_1 0 hb.1 hb.2.2.1 hb.2.2.2 (Int.le_refl _) (by omega)
    rw [Int.add_zero, Int.sub_zero] at e1
    have hc1 : (0 : Int) ≤ (if a0_1 < a1_1 then 1 else 0) ∧ (if a0_1 < a1_1 then (1 : Int) else 0) ≤ 1 := by split <;> omega
    generalize hA : (if a0_1 < a1_1 then (1 : Int) else 0) = c at *
    have e2 := wide_Sub.run (a0_0 % 18446744073709551616) (a1_0 % 18446744073709551616) c (by omega) (by omega) (by omega) hc1.1 hc1.2
    clear hb h hc1
    have hg1 : IntKind.u64.wrap a0_0 = a0_0 % 18446744073709551616 := IntKind.wrap_u64 _
    have hg2 : IntKind.u64.wrap a1_0 = a1_0 % 18446744073709551616 := IntKind.wrap_u64 _
    generalize hB : (a0_1 + 18446744073709551616 - a1_1) % 18446744073709551616 = lo at *
    generalize hC : a0_0 % 18446744073709551616 = ua at *
    generalize hD : a1_0 % 18446744073709551616 = ub at *
    generalize hE : (ua + 18446744073709551616 - ub - c) % 18446744073709551616 = hi at *
    generalize hF : (if ua < ub + c then (1 : Int) else 0) = d at *
    clear hA hB hC hD hE hF
    go_enter Try.func31, Try.ntmps31
    go_wp2
    refine bodyPost_ret (results_cell_row rfl _ _ (w.heap.size + 1 + 1) 28 #[.int .i64 (wrap64 hi), .int .u64 lo] (0, 0) _ rfl (Aid.blk_top _ _ _ (by simp)) Try.underlying28 rfl (by kernel_rfl)) rfl ?_
    exact ⟨rfl, below_alloc (below_alloc (below_alloc (Below.refl _ _) _) _) _⟩
  · cases h

end Go.Proofs.Ytiicdgimffpckaa.W
