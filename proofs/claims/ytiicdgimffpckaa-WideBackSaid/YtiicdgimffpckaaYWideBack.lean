/- The law WideBack over values alone. -/
import Derived.Test.YtiicdgimffpckaaSWideBack
import Derived.Test.YtiicdgimffpckaaYWideDivBase
namespace Go.Proofs.Ytiicdgimffpckaa.W.wideBack
open Go.RowKit Go.Proofs.YtiicdgimffpckaaW.PrintWords Go.Proofs.YtiicdgimffpckaaW.PrintLast Go.Proofs.YtiicdgimffpckaaW.PrintMore Go.Proofs.Ytiicdgimffpckaa.W Go.Proofs.Ytiicdgimffpckaa.W.Base
set_option linter.unusedVariables false
set_option linter.unusedSimpArgs false
theorem pure : calamuslaw01_WideBack.Pure := by
  intro a d ha hd
  have ha := i64_bd ha
  have hd := i64_bd hd
  refine ⟨0 + 80, ?_⟩
  unfold calamuslaw01_WideBack.f
  rw [alive_yes 0, bs, if_pos rfl]
  by_cases h1 : d < 1
  · rw [if_pos h1]
  · rw [if_neg h1, Of_ok ha, bs]
    have hV : (if a < 0 then -1 else 0) * 18446744073709551616 + a % 18446744073709551616 = a := by split <;> omega
    have hD := Div_ok 59 (h := if a < 0 then -1 else 0) (l := a % 18446744073709551616) (d := d) ⟨by omega, by omega⟩ (by split <;> omega) (md a)
    rw [hV] at hD
    simp only
    rw [show 0 + 80 = 21 + 59 by omega, hD, bs]
    have r0 := Int.emod_nonneg a (show d ≠ 0 by omega)
    have r1 := Int.emod_lt_of_pos a (show 0 < d by omega)
    have r2 := Int.mul_ediv_add_emod a d
    have q1 : -9223372036854775808 ≤ a / d ∧ a / d < 9223372036854775808 := by
      refine ⟨?_, ?_⟩
      · rcases Int.lt_or_le (a / d) (-9223372036854775808) with g | g
        · have := Int.mul_le_mul_of_nonneg_left (show a / d ≤ -9223372036854775809 by omega) (show 0 ≤ d by omega)
          omega
        · exact g
      · rcases Int.lt_or_le (a / d) 9223372036854775808 with g | g
        · exact g
        · have := Int.mul_le_mul_of_nonneg_left g (show 0 ≤ d by omega)
          omega
    rw [Int.mul_comm] at r2
    generalize a / d = q at *
    generalize a % d = r at *
    have hw : wrap64 (q % 18446744073709551616) = q := by unfold wrap64; omega
    simp only
    rw [Small_ok (by omega) (md q), bs, hw, if_pos (show q / 18446744073709551616 = q / 9223372036854775808 by omega)]
    simp only
    rw [if_pos trivial, if_pos r0, if_pos r1, Mul_ok q1 (by omega), bs, Of_ok (a := r) (by omega), bs, if_neg (show ¬ r < 0 by omega)]
    rw [Add_ok (md _) (md _), bs, bs]
    generalize q * d = t at *
    have e1 : wrap64 (t / 18446744073709551616 + 0 + (t % 18446744073709551616 + r % 18446744073709551616) / 18446744073709551616) = if a < 0 then -1 else 0 := by unfold wrap64; split <;> omega
    have e2 : (t % 18446744073709551616 + r % 18446744073709551616) % 18446744073709551616 = a % 18446744073709551616 := by omega
    simp only [e1, e2]
    simp
end Go.Proofs.Ytiicdgimffpckaa.W.wideBack
