/- wide (layer 1): Div rounds down, for numbers of either sign. -/
import Derived.Test.YtiicdgimffpckaaYWideDiv64
namespace Go.Proofs.Ytiicdgimffpckaa.W.Base
open Go.RowKit Go.Proofs.YtiicdgimffpckaaW.PrintWords Go.Proofs.YtiicdgimffpckaaW.PrintLast Go.Proofs.YtiicdgimffpckaaW.PrintMore Go.Proofs.Ytiicdgimffpckaa.W
set_option linter.unusedVariables false
set_option linter.unusedSimpArgs false
/-- A number not below 0, in two steps. -/
theorem two_steps (K : Nat) {h l d : Int} (hd : 1 ≤ d ∧ d < 9223372036854775808) (hh : 0 ≤ h ∧ h < 9223372036854775808) (hl : 0 ≤ l ∧ l < 18446744073709551616) :
    ∃ q0 : Int, bits_Div64.f (20 + K) 0 (IntKind.u64.wrap h) (IntKind.u64.wrap d) = some (h / d, h % d) ∧ bits_Div64.f (20 + K) (h % d) l (IntKind.u64.wrap d) = some (q0, (h * 18446744073709551616 + l) % d) ∧
      0 ≤ q0 ∧ q0 < 18446744073709551616 ∧ (h * 18446744073709551616 + l) / d = h / d * 18446744073709551616 + q0 ∧ 0 ≤ h / d ∧ h / d < 9223372036854775808 := by
  have e1 : IntKind.u64.wrap h = h := by rw [u_w]; omega
  have e2 : IntKind.u64.wrap d = d := by rw [u_w]; omega
  have m0 := Int.emod_nonneg h (show d ≠ 0 by omega)
  have m1 := Int.emod_lt_of_pos h (show 0 < d by omega)
  have s := Int.mul_ediv_add_emod h d
  have v0 := Int.ediv_nonneg hh.1 (show 0 ≤ d by omega)
  have v1 := Int.ediv_le_self d hh.1
  rw [e1, e2, Div64_ok K ⟨by omega, by omega⟩ ⟨by omega, by omega⟩ ⟨by omega, by omega⟩, Int.zero_mul, Int.zero_add, Div64_ok K ⟨by omega, by omega⟩ ⟨m0, m1⟩ hl]
  have t0 : 0 ≤ h % d * 18446744073709551616 + l := by omega
  have t1 : h % d * 18446744073709551616 + l < d * 18446744073709551616 := by omega
  have e3 : h * 18446744073709551616 + l = d * (h / d * 18446744073709551616) + (h % d * 18446744073709551616 + l) := by
    have : d * (h / d * 18446744073709551616) = (d * (h / d)) * 18446744073709551616 := by grind
    rw [this]
    omega
  have e4 : (h * 18446744073709551616 + l) % d = (h % d * 18446744073709551616 + l) % d := by rw [e3, Int.mul_add_emod_self_left]
  have e5 : (h * 18446744073709551616 + l) / d = h / d * 18446744073709551616 + (h % d * 18446744073709551616 + l) / d := by rw [e3, Int.mul_add_ediv_left _ _ (by omega)]
  rw [e4, e5]
  exact ⟨_, rfl, rfl, Int.ediv_nonneg t0 (by omega), Int.ediv_lt_of_lt_mul (by omega) (by first | exact t1 | (rw [Int.mul_comm]; exact t1) | omega), rfl, v0, by omega⟩
theorem Div_ok (K : Nat) {h l d : Int} (hd : 1 ≤ d ∧ d < 9223372036854775808) (hh : -9223372036854775808 ≤ h ∧ h < 9223372036854775808) (hl : 0 ≤ l ∧ l < 18446744073709551616) :
    wide_Div.f (21 + K) h l d = some ((h * 18446744073709551616 + l) / d / 18446744073709551616, (h * 18446744073709551616 + l) / d % 18446744073709551616, (h * 18446744073709551616 + l) % d, 0) := by
  unfold wide_Div.f
  rw [if_neg (by omega), show 21 + K = (20 + K) + 1 by omega]
  by_cases h0 : h < 0
  · rw [if_pos h0, Sub_ok (by omega) hl, bs, wide_Div.j0]
    have e1 : wrap64 (-1 - h + (18446744073709551615 - l) / 18446744073709551616) = -1 - h := by unfold wrap64; omega
    have e2 : (18446744073709551615 - l) % 18446744073709551616 = 18446744073709551615 - l := by omega
    simp only [e1, e2]
    obtain ⟨q0, f1, f2, g0, g1, g2, g3, g4⟩ := two_steps K hd (h := -1 - h) (l := 18446744073709551615 - l) (by omega) (by omega)
    rw [f1, bs, f2, bs, if_pos trivial]
    generalize (-1 - h) / d = qh at *
    have r0 := Int.emod_nonneg ((-1 - h) * 18446744073709551616 + (18446744073709551615 - l)) (show d ≠ 0 by omega)
    have r1 := Int.emod_lt_of_pos ((-1 - h) * 18446744073709551616 + (18446744073709551615 - l)) (show 0 < d by omega)
    have r2 := Int.mul_ediv_add_emod ((-1 - h) * 18446744073709551616 + (18446744073709551615 - l)) d
    rw [g2] at r2
    generalize ((-1 - h) * 18446744073709551616 + (18446744073709551615 - l)) % d = r at *
    have e3 : wrap64 qh = qh := w_id (by omega) (by omega)
    have e4 : wrap64 (wrap64 (d - 1) - wrap64 r) = d - 1 - r := by unfold wrap64; omega
    simp only [e3, e4]
    rw [Sub_ok (by omega) ⟨g0, g1⟩, bs]
    have e5 : wrap64 (-1 - qh + (18446744073709551615 - q0) / 18446744073709551616) = -1 - qh := by unfold wrap64; omega
    have e6 : (18446744073709551615 - q0) % 18446744073709551616 = 18446744073709551615 - q0 := by omega
    obtain ⟨k1, k2⟩ := (Int.ediv_emod_unique (a := h * 18446744073709551616 + l) (b := d) (r := d - 1 - r) (q := -1 - (qh * 18446744073709551616 + q0)) (by omega)).mpr ⟨by rw [Int.mul_sub]; omega, by omega, by omega⟩
    rw [k1, k2]
    simp only [e5, e6]
    congr 2
    · omega
    · congr 1
      omega
  · rw [if_neg h0, wide_Div.j0]
    obtain ⟨q0, f1, f2, g0, g1, g2, g3, g4⟩ := two_steps K hd (h := h) (l := l) (by omega) hl
    rw [f1, bs, f2, bs, if_neg (fun c => by cases c), g2]
    have r0 := Int.emod_nonneg (h * 18446744073709551616 + l) (show d ≠ 0 by omega)
    have r1 := Int.emod_lt_of_pos (h * 18446744073709551616 + l) (show 0 < d by omega)
    generalize (h * 18446744073709551616 + l) % d = r at *
    generalize h / d = qh at *
    have e3 : wrap64 qh = qh := w_id (by omega) (by omega)
    have e4 : wrap64 r = r := w_id (by omega) (by omega)
    simp only [e3, e4]
    congr 2
    · omega
    · congr 1
      omega
end Go.Proofs.Ytiicdgimffpckaa.W.Base
