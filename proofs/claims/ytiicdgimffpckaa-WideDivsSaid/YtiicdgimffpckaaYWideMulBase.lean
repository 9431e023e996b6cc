/- wide (layer 1): products of two small numbers are exact. -/
import Derived.Test.YtiicdgimffpckaaYWideBase
import Derived.Laws.MathBits
namespace Go.Proofs.Ytiicdgimffpckaa.W.Base
open Go.RowKit Go.Proofs.YtiicdgimffpckaaW.PrintWords Go.Proofs.YtiicdgimffpckaaW.PrintLast Go.Proofs.YtiicdgimffpckaaW.PrintMore Go.Proofs.Ytiicdgimffpckaa.W
set_option linter.unusedVariables false
set_option linter.unusedSimpArgs false
theorem md (x : Int) : 0 ≤ x % 18446744073709551616 ∧ x % 18446744073709551616 < 18446744073709551616 := by omega
theorem Mul64_ok {x y : Int} (hx : 0 ≤ x ∧ x < 18446744073709551616) (hy : 0 ≤ y ∧ y < 18446744073709551616) :
    bits_Mul64.f x y = some (x * y / 18446744073709551616, x * y % 18446744073709551616) := by
  unfold bits_Mul64.f
  simp only [u_w]
  rw [bits_low x hx, bits_low y hy, bits_low _ (md _)]
  rw [mul64_arith x y hx.1 hx.2 hy.1 hy.2]
theorem mul_bd {a b : Int} (ha : -9223372036854775808 ≤ a ∧ a < 9223372036854775808) (hb : -9223372036854775808 ≤ b ∧ b < 9223372036854775808) :
    -85070591730234615865843651857942052864 ≤ a * b ∧ a * b ≤ 85070591730234615865843651857942052864 := by
  have h1 : a.natAbs ≤ 9223372036854775808 := by omega
  have h2 : b.natAbs ≤ 9223372036854775808 := by omega
  have := Nat.mul_le_mul h1 h2
  have e : (a * b).natAbs = a.natAbs * b.natAbs := Int.natAbs_mul a b
  omega
theorem fit {x y : Int} (h : ∃ n : Int, x = y + n * 18446744073709551616) (hy : -9223372036854775808 ≤ y ∧ y < 9223372036854775808) : wrap64 x = y := by
  obtain ⟨n, rfl⟩ := h
  unfold wrap64
  omega
theorem Mul_ok {a b : Int} (ha : -9223372036854775808 ≤ a ∧ a < 9223372036854775808) (hb : -9223372036854775808 ≤ b ∧ b < 9223372036854775808) :
    wide_Mul.f a b = some (a * b / 18446744073709551616, a * b % 18446744073709551616) := by
  have hm := mul_bd ha hb
  unfold wide_Mul.f
  simp only [u_w]
  rw [Mul64_ok (md a) (md b), bs]
  by_cases h1 : a < 0
  · have ea : a % 18446744073709551616 = a + 18446744073709551616 := by omega
    by_cases h2 : b < 0
    · have eb : b % 18446744073709551616 = b + 18446744073709551616 := by omega
      have e : (a % 18446744073709551616) * (b % 18446744073709551616) = a * b + (a + b + 18446744073709551616) * 18446744073709551616 := by rw [ea, eb]; grind
      rw [if_pos h1, if_pos h2, e, ea, eb]
      generalize a * b = t at *
      have e1 : wrap64 ((((t + (a + b + 18446744073709551616) * 18446744073709551616) / 18446744073709551616 - (b + 18446744073709551616)) % 18446744073709551616 - (a + 18446744073709551616)) % 18446744073709551616) = t / 18446744073709551616 := by
        unfold wrap64
        omega
      rw [e1]
      congr 2
      omega
    · have eb : b % 18446744073709551616 = b := by omega
      have e : (a % 18446744073709551616) * (b % 18446744073709551616) = a * b + b * 18446744073709551616 := by rw [ea, eb]; grind
      rw [if_pos h1, if_neg h2, e, eb]
      generalize a * b = t at *
      have e1 : wrap64 (((t + b * 18446744073709551616) / 18446744073709551616 - b) % 18446744073709551616) = t / 18446744073709551616 := by
        unfold wrap64
        omega
      rw [e1]
      congr 2
      omega
  · have ea : a % 18446744073709551616 = a := by omega
    by_cases h2 : b < 0
    · have eb : b % 18446744073709551616 = b + 18446744073709551616 := by omega
      have e : (a % 18446744073709551616) * (b % 18446744073709551616) = a * b + a * 18446744073709551616 := by rw [ea, eb]; grind
      rw [if_neg h1, if_pos h2, e, ea]
      generalize a * b = t at *
      have e1 : wrap64 (((t + a * 18446744073709551616) / 18446744073709551616 - a) % 18446744073709551616) = t / 18446744073709551616 := by
        unfold wrap64
        omega
      rw [e1]
      congr 2
      omega
    · have eb : b % 18446744073709551616 = b := by omega
      rw [if_neg h1, if_neg h2, ea, eb]
      generalize a * b = t at *
      rw [w_id (by omega) (by omega)]
end Go.Proofs.Ytiicdgimffpckaa.W.Base
