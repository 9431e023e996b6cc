/- wide (layer 1): Root answers the square root, rounded down. -/
import Derived.Test.YtiicdgimffpckaaYWideMulBase
import Derived.Laws.BitsAllLaws
namespace Go.Proofs.Ytiicdgimffpckaa.W.Base
open Go.RowKit Go.Proofs.YtiicdgimffpckaaW.PrintWords Go.Proofs.YtiicdgimffpckaaW.PrintLast Go.Proofs.YtiicdgimffpckaaW.PrintMore Go.Proofs.Ytiicdgimffpckaa.W
set_option linter.unusedVariables false
set_option linter.unusedSimpArgs false
theorem shl_one (n : Nat) (hn : n < 64) : shl .u64 1 (n : Int) = ((2 ^ n : Nat) : Int) := by
  unfold shl
  rw [u_w, Int.one_mul, Int.toNat_natCast]
  have h1 : IntKind.bits .u64 = 64 := rfl
  rw [h1, Nat.min_eq_left (by omega)]
  have h2 : (2 : Nat) ^ n < 18446744073709551616 := Nat.pow_lt_pow_right (a := 2) (m := n) (n := 64) (by omega) hn
  have h3 : ((2 : Int) ^ n) = ((2 ^ n : Nat) : Int) := by simp
  rw [h3]
  generalize (2 : Nat) ^ n = p at *
  omega
theorem or_pow (n m : Nat) (hn : n < 64) (h : 2 ^ (n + 1) * m + 2 ^ (n + 1) ≤ 18446744073709551616) :
    Go.bits .or .u64 ((2 ^ (n + 1) * m : Nat) : Int) ((2 ^ n : Nat) : Int) = ((2 ^ n * (2 * m + 1) : Nat) : Int) := by
  have h2 : (2 : Nat) ^ n < 2 ^ (n + 1) := Nat.pow_lt_pow_right (by omega) (by omega)
  have e := Nat.two_pow_add_eq_or_of_lt h2 m
  have h3 : 2 ^ n * (2 * m + 1) = 2 ^ (n + 1) * m + 2 ^ n := by rw [Nat.pow_succ]; grind
  rw [u64_or_nat _ _ (by omega) (by omega), ← e, h3]
theorem Root_l0 (K : Nat) (V h l : Int) (hV : V = h * 18446744073709551616 + l) (hh : 0 ≤ h ∧ h < 9223372036854775808) (hl : 0 ≤ l ∧ l < 18446744073709551616) :
    ∀ (n m : Nat), n ≤ 64 → 2 ^ n * m + 2 ^ n ≤ 18446744073709551616 → ((2 ^ n * m : Nat) : Int) * ((2 ^ n * m : Nat) : Int) ≤ V → V < (((2 ^ n * m : Nat) : Int) + ((2 ^ n : Nat) : Int)) * (((2 ^ n * m : Nat) : Int) + ((2 ^ n : Nat) : Int)) →
    ∃ s : Int, wide_Root.l0 (n + 1 + K) ((2 ^ n * m : Nat) : Int) (64 - (n : Int)) h l = some (s, 0) ∧ 0 ≤ s ∧ s < 18446744073709551616 ∧ s * s ≤ V ∧ V < (s + 1) * (s + 1)
  | 0, m, _, h1, h2, h3 => by
    refine ⟨((2 ^ 0 * m : Nat) : Int), ?_, by omega, by omega, h2, by simpa using h3⟩
    rw [show 0 + 1 + K = K + 1 by omega, wide_Root.l0, if_neg (by omega)]
  | n + 1, m, hn, h1, h2, h3 => by
    rw [show n + 1 + 1 + K = (n + 1 + K) + 1 by omega, wide_Root.l0, if_pos (by omega)]
    have e1 : wrap64 (63 - (64 - ((n + 1 : Nat) : Int))) = (n : Int) := by rw [w_id (by omega) (by omega)]; omega
    have e2 : wrap64 (64 - ((n + 1 : Nat) : Int) + 1) = 64 - (n : Int) := by rw [w_id (by omega) (by omega)]; omega
    have e3 : (2 : Nat) ^ (n + 1) = 2 ^ n + 2 ^ n := by rw [Nat.pow_succ]; omega
    have e4 : 2 ^ (n + 1) * m = 2 ^ n * (2 * m) := by rw [Nat.pow_succ]; grind
    have e5 : 2 ^ n * (2 * m + 1) = 2 ^ n * (2 * m) + 2 ^ n := by grind
    rw [e1, e2, if_pos (by omega), shl_one n (by omega), or_pow n m (by omega) h1]
    have hp : 0 < 2 ^ n := Nat.two_pow_pos n
    have ht1 : 2 ^ n * (2 * m) + (2 ^ n + 2 ^ n) ≤ 18446744073709551616 := by rw [← e3, ← e4]; exact h1
    have ht0 : 2 ^ n * (2 * m + 1) < 18446744073709551616 := by
      rw [e5]
      clear h2 h3 e1 e2 e3 e4 e5 h1
      generalize 2 ^ n * (2 * m) = q at *
      generalize 2 ^ n = p at *
      omega
    have ht : ((2 ^ n * (2 * m + 1) : Nat) : Int) < 18446744073709551616 := Int.ofNat_lt.mpr ht0
    rw [Mul64_ok ⟨Int.natCast_nonneg _, ht⟩ ⟨Int.natCast_nonneg _, ht⟩, bs, u_w]
    have e6 : h % 18446744073709551616 = h := by omega
    rw [e6]
    have up : ((2 ^ n * (2 * m + 1) : Nat) : Int) * ((2 ^ n * (2 * m + 1) : Nat) : Int) ≤ V → ∃ s : Int, wide_Root.l0 (n + 1 + K) ((2 ^ n * (2 * m + 1) : Nat) : Int) (64 - (n : Int)) h l = some (s, 0) ∧ 0 ≤ s ∧ s < 18446744073709551616 ∧ s * s ≤ V ∧ V < (s + 1) * (s + 1) := by
      intro hle
      refine Root_l0 K V h l hV hh hl n (2 * m + 1) (by omega) (by rw [e5, Nat.add_assoc]; exact ht1) hle ?_
      have e7 : ((2 ^ n * (2 * m + 1) : Nat) : Int) + ((2 ^ n : Nat) : Int) = ((2 ^ (n + 1) * m : Nat) : Int) + ((2 ^ (n + 1) : Nat) : Int) := by
        rw [← Int.natCast_add, ← Int.natCast_add, e5, e4, e3, Nat.add_assoc]
      rw [e7]
      exact h3
    have down : V < ((2 ^ n * (2 * m + 1) : Nat) : Int) * ((2 ^ n * (2 * m + 1) : Nat) : Int) → ∃ s : Int, wide_Root.l0 (n + 1 + K) ((2 ^ (n + 1) * m : Nat) : Int) (64 - (n : Int)) h l = some (s, 0) ∧ 0 ≤ s ∧ s < 18446744073709551616 ∧ s * s ≤ V ∧ V < (s + 1) * (s + 1) := by
      intro hlt
      rw [e4] at h2 ⊢
      refine Root_l0 K V h l hV hh hl n (2 * m) (by omega) (by rw [← e5]; exact Nat.le_of_lt ht0) h2 ?_
      have e7 : ((2 ^ n * (2 * m) : Nat) : Int) + ((2 ^ n : Nat) : Int) = ((2 ^ n * (2 * m + 1) : Nat) : Int) := by rw [← Int.natCast_add, e5]
      rw [e7]
      exact hlt
    generalize ((2 ^ n * (2 * m + 1) : Nat) : Int) * ((2 ^ n * (2 * m + 1) : Nat) : Int) = T at *
    show ∃ s : Int, (if T / 18446744073709551616 < h then _ else _) = some (s, (0 : Int)) ∧ _
    by_cases c1 : T / 18446744073709551616 < h
    · rw [if_pos c1]
      exact up (by omega)
    · rw [if_neg c1]
      by_cases c2 : T / 18446744073709551616 = h
      · rw [if_pos c2]
        show ∃ s : Int, (if T % 18446744073709551616 ≤ l then _ else _) = some (s, (0 : Int)) ∧ _
        by_cases c3 : T % 18446744073709551616 ≤ l
        · rw [if_pos c3]
          exact up (by omega)
        · rw [if_neg c3]
          exact down (by omega)
      · rw [if_neg c2]
        exact down (by omega)
theorem Root_ok (K : Nat) {h l : Int} (hh : 0 ≤ h ∧ h < 9223372036854775808) (hl : 0 ≤ l ∧ l < 18446744073709551616) :
    ∃ s : Int, wide_Root.f (65 + K) h l = some (s, 0) ∧ 0 ≤ s ∧ s < 18446744073709551616 ∧ s * s ≤ h * 18446744073709551616 + l ∧ h * 18446744073709551616 + l < (s + 1) * (s + 1) := by
  unfold wide_Root.f
  rw [if_neg (by omega)]
  have := Root_l0 K (h * 18446744073709551616 + l) h l rfl hh hl 64 0 (by omega) (by decide) (by simp; omega) (by
    have : ((2 ^ 64 * 0 : Nat) : Int) + ((2 ^ 64 : Nat) : Int) = 18446744073709551616 := by decide
    rw [this]
    omega)
  exact this
theorem root_only {s t V : Int} (hs : 0 ≤ s) (ht : 0 ≤ t) (h1 : s * s ≤ V) (h2 : V < (s + 1) * (s + 1)) (h3 : t * t ≤ V) (h4 : V < (t + 1) * (t + 1)) : s = t := by
  have mono : ∀ {x y : Int}, 0 ≤ x → x ≤ y → x * x ≤ y * y := fun hx hxy => Int.mul_le_mul hxy hxy hx (by omega)
  rcases Int.lt_trichotomy s t with h | h | h
  · have := mono (show (0 : Int) ≤ s + 1 by omega) (show s + 1 ≤ t by omega)
    omega
  · exact h
  · have := mono (show (0 : Int) ≤ t + 1 by omega) (show t + 1 ≤ s by omega)
    omega
end Go.Proofs.Ytiicdgimffpckaa.W.Base
