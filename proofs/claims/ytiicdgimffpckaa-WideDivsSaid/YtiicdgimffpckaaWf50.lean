/- What Go functions answer, as Lean functions, and that they do: written by wip/xprint.py of this session (the kit's printer with turns, texts by hand among them). -/
import Derived.Test.YtiicdgimffpckaaW0
import Derived.Test.YtiicdgimffpckaaWd0
namespace Go.Proofs.Ytiicdgimffpckaa.W
open Go.RowKit Go.Proofs.YtiicdgimffpckaaW.PrintWords Go.Proofs.YtiicdgimffpckaaW.PrintLast Go.Proofs.YtiicdgimffpckaaW.PrintMore
attribute [local go_sem] max2_int min2_int max_two min_two max_three min_three max_four min_four   -- for this text's walks alone
set_option linter.unusedVariables false
set_option linter.unusedSimpArgs false

/-! ### calamusref01_bit: function 50 -/
-- CALLS
set_option maxRecDepth 100000 in
theorem calamusref01_bit.addr (i : Nat) (hi : i < 8) : ∀ (b o : Nat) (W : World), (Instr.indexAt 34 (.pointer (some ⟨b, o, none⟩)) (.int .i64 (i : Int))).run Try.prog W = .ok (.pointer (some ⟨b, o + i, none⟩)) W := by
  intro b o W
  have : i = 0 ∨ i = 1 ∨ i = 2 ∨ i = 3 ∨ i = 4 ∨ i = 5 ∨ i = 6 ∨ i = 7 := by omega
  rcases this with rfl | rfl | rfl | rfl | rfl | rfl | rfl | rfl <;> rfl
theorem calamusref01_bit.cell (i : Int) (h0 : 0 ≤ i) (h1 : i < 128) {a0 a1 a2 a3 a4 a5 a6 a7 : Int} : ([.int .u32 a0, .int .u32 a1, .int .u32 a2, .int .u32 a3, .int .u32 a4, .int .u32 a5, .int .u32 a6, .int .u32 a7] : List Value)[(i / 16).toNat]? = some (.int .u32 (calamusref01_bit.sel i a0 a1 a2 a3 a4 a5 a6 a7)) := by
  unfold calamusref01_bit.sel
  have h : (i / 16).toNat < 8 := by omega
  generalize (i / 16).toNat = n at h
  have : n = 0 ∨ n = 1 ∨ n = 2 ∨ n = 3 ∨ n = 4 ∨ n = 5 ∨ n = 6 ∨ n = 7 := by omega
  rcases this with rfl | rfl | rfl | rfl | rfl | rfl | rfl | rfl <;> rfl
theorem calamusref01_bit.pow (k : Nat) (hk : k < 16) : ∃ p : Int, (2 : Int) ^ k % 4294967296 = p ∧ 0 < p ∧ p = 2 ^ k := by
  have : k = 0 ∨ k = 1 ∨ k = 2 ∨ k = 3 ∨ k = 4 ∨ k = 5 ∨ k = 6 ∨ k = 7 ∨ k = 8 ∨ k = 9 ∨ k = 10 ∨ k = 11 ∨ k = 12 ∨ k = 13 ∨ k = 14 ∨ k = 15 := by omega
  refine ⟨2 ^ k, ?_, ?_, rfl⟩ <;> rcases this with rfl | rfl | rfl | rfl | rfl | rfl | rfl | rfl | rfl | rfl | rfl | rfl | rfl | rfl | rfl | rfl <;> decide
set_option maxHeartbeats 4000000 in
set_option maxRecDepth 100000 in
theorem calamusref01_bit.calls (a0_0 a0_1 a0_2 a0_3 a0_4 a0_5 a0_6 a0_7 : Int) (a1 : Int) (r : Int) (w : World) (h : calamusref01_bit.f a0_0 a0_1 a0_2 a0_3 a0_4 a0_5 a0_6 a0_7 a1 = some r) :
    Calls Try.prog 50 #[.agg #[.int .u32 a0_0, .int .u32 a0_1, .int .u32 a0_2, .int .u32 a0_3, .int .u32 a0_4, .int .u32 a0_5, .int .u32 a0_6, .int .u32 a0_7], .int .i64 a1] w fun e w' => e = .returned (.int .u32 r) ∧ Below w.heap.size w w' := by
  have hu1 := Try.underlying34
  have hu2 := Try.underlying32
  have hu3 := Try.underlying3
  unfold calamusref01_bit.f at h
  split at h
  · rename_i hb
    obtain rfl := Option.some.inj h
    obtain ⟨h0, h1, h2, h3⟩ := hb
    have hs : ([.int .u32 a0_0, .int .u32 a0_1, .int .u32 a0_2, .int .u32 a0_3, .int .u32 a0_4, .int .u32 a0_5, .int .u32 a0_6, .int .u32 a0_7] : List Value)[(a1 / 16).toNat]? = some (.int .u32 (calamusref01_bit.sel a1 a0_0 a0_1 a0_2 a0_3 a0_4 a0_5 a0_6 a0_7)) := calamusref01_bit.cell _ h0 h1
    generalize calamusref01_bit.sel a1 a0_0 a0_1 a0_2 a0_3 a0_4 a0_5 a0_6 a0_7 = d at *
    clear h
    obtain ⟨p, hp, hp0, hp1⟩ := calamusref01_bit.pow (a1 % 16).toNat (by omega)
    have hpz : (p = 0) = False := eq_false (by omega)
    have hr : Int.tdiv d p % 4294967296 % 2 = d / 2 ^ (a1 % 16).toNat % 2 := by
      rw [Int.tdiv_eq_ediv_of_nonneg h2, hp1]
      have h4 : 0 ≤ d / p := Int.ediv_nonneg h2 (by omega)
      have h5 : d / p ≤ d := Int.ediv_le_self p h2
      omega
    have HR := Aside0.mk hr
    have hq := calamusref01_bit.addr (a1 / 16).toNat (by omega)
    rw [show (((a1 / 16).toNat : Nat) : Int) = a1 / 16 by omega] at hq
    clear h2 h3 hp1 hr
    go_enter Try.func50, Try.ntmps50
    go_wp2
    go_ret
    exact ⟨by rw [← HR.out]; rfl, below_alloc (Below.refl _ _) _⟩
  · cases h

end Go.Proofs.Ytiicdgimffpckaa.W
