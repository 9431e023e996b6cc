/- math/bits.Div64: each digit of the quotient is found by its estimate and at most two steps down. -/
import Derived.Test.YtiicdgimffpckaaYWideMulBase
namespace Go.Proofs.Ytiicdgimffpckaa.W.Base
open Go.RowKit Go.Proofs.YtiicdgimffpckaaW.PrintWords Go.Proofs.YtiicdgimffpckaaW.PrintLast Go.Proofs.YtiicdgimffpckaaW.PrintMore Go.Proofs.Ytiicdgimffpckaa.W
set_option linter.unusedVariables false
set_option linter.unusedSimpArgs false
/-- The divisor, its top bit set, in two halves. -/
structure Nm (y n1 n0 : Int) : Prop where
  e : y = n1 * 4294967296 + n0
  a : 2147483648 ≤ n1 ∧ n1 < 4294967296
  b : 0 ≤ n0 ∧ n0 < 4294967296
/-- The estimate is not below the digit; what is left fits. -/
structure Est (y n1 n0 u v q r : Int) : Prop where
  s : q * n1 + r = u
  rr : 0 ≤ r ∧ r < 4294967296
  qq : 0 ≤ q ∧ q ≤ 4294967297
  t : u * 4294967296 + v < (q + 1) * y
theorem start {y n1 n0 u v : Int} (h : Nm y n1 n0) (hu : 0 ≤ u ∧ u < y) (hv : 0 ≤ v ∧ v < 4294967296) : Est y n1 n0 u v (u / n1) (u - u / n1 * n1) := by
  obtain ⟨e, a, b⟩ := h
  have h1 : u / n1 * n1 + u % n1 = u := by rw [Int.mul_comm]; exact Int.mul_ediv_add_emod u n1
  have h2 := Int.emod_nonneg u (show n1 ≠ 0 by omega)
  have h3 := Int.emod_lt_of_pos u (show 0 < n1 by omega)
  have h4 : 0 ≤ u / n1 := Int.ediv_nonneg hu.1 (by omega)
  generalize u / n1 = q at *
  generalize u % n1 = r at *
  have h5 : q ≤ 4294967297 := by
    rcases Int.lt_or_le 4294967297 q with h | h
    · have := Int.mul_le_mul_of_nonneg_right (show 4294967298 ≤ q by omega) (show 0 ≤ n1 by omega)
      omega
    · exact h
  refine ⟨by omega, by omega, ⟨h4, h5⟩, ?_⟩
  have e2 : (q + 1) * y = (q * n1) * 4294967296 + n1 * 4294967296 + (q * n0 + n0) := by rw [e]; grind
  have h6 : 0 ≤ q * n0 := Int.mul_nonneg h4 b.1
  rw [e2]
  generalize q * n1 = p at *
  generalize q * n0 = p' at *
  omega
theorem big {y n1 n0 u v q r : Int} (h : Nm y n1 n0) (hu : 0 ≤ u ∧ u < y) (hv : 0 ≤ v ∧ v < 4294967296) (i : Est y n1 n0 u v q r) (c : q ≥ 4294967296 ∨ q * n0 > 4294967296 * r + v) : u * 4294967296 + v < q * y ∧ 1 ≤ q := by
  obtain ⟨e, a, b⟩ := h
  obtain ⟨s, hr, hq, t⟩ := i
  have e2 : q * y = (q * n1) * 4294967296 + q * n0 := by rw [e]; grind
  have h1 : u * 4294967296 + v < q * y := by
    rcases c with c | c
    · have := Int.mul_le_mul_of_nonneg_right c (show 0 ≤ y by omega)
      omega
    · rw [e2]
      generalize q * n1 = p at *
      generalize q * n0 = p' at *
      omega
  refine ⟨h1, ?_⟩
  rcases Int.lt_or_le 0 q with h | h
  · omega
  · have : q = 0 := by omega
    subst this
    omega
theorem small {y n1 n0 u v q r : Int} (h : Nm y n1 n0) (hu : 0 ≤ u ∧ u < y) (hv : 0 ≤ v ∧ v < 4294967296) (i : Est y n1 n0 u v q r) (c : q * n0 ≤ 4294967296 * r + v) : q * y ≤ u * 4294967296 + v := by
  obtain ⟨e, a, b⟩ := h
  obtain ⟨s, hr, hq, t⟩ := i
  have e2 : q * y = (q * n1) * 4294967296 + q * n0 := by rw [e]; grind
  rw [e2]
  generalize q * n1 = p at *
  generalize q * n0 = p' at *
  omega
theorem last {y n1 n0 u v q r : Int} (h : Nm y n1 n0) (hu : 0 ≤ u ∧ u < y) (hv : 0 ≤ v ∧ v < 4294967296) (i : Est y n1 n0 u v q r) (c : q ≥ 4294967296 ∨ q * n0 > 4294967296 * r + v) (d : r + n1 ≥ 4294967296) : (q - 1) * y ≤ u * 4294967296 + v := by
  obtain ⟨h1, h2⟩ := big h hu hv i c
  obtain ⟨e, a, b⟩ := h
  obtain ⟨s, hr, hq, t⟩ := i
  have e2 : (q - 1) * y = (q * n1 - n1) * 4294967296 + (q - 1) * n0 := by rw [e]; grind
  have h3 : (q - 1) * n0 ≤ 4294967296 * 4294967295 := Int.mul_le_mul (by omega) (by omega) b.1 (by omega)
  rw [e2]
  generalize q * n1 = p at *
  generalize (q - 1) * n0 = p' at *
  omega
theorem next {y n1 n0 u v q r : Int} (h : Nm y n1 n0) (hu : 0 ≤ u ∧ u < y) (hv : 0 ≤ v ∧ v < 4294967296) (i : Est y n1 n0 u v q r) (c : q ≥ 4294967296 ∨ q * n0 > 4294967296 * r + v) (d : r + n1 < 4294967296) : Est y n1 n0 u v (q - 1) (r + n1) := by
  obtain ⟨h1, h2⟩ := big h hu hv i c
  obtain ⟨e, a, b⟩ := h
  obtain ⟨s, hr, hq, t⟩ := i
  refine ⟨?_, by omega, by omega, ?_⟩
  · rw [Int.sub_mul]
    omega
  · rw [Int.sub_add_cancel]
    exact h1
/-- The test, as the program makes it. -/
theorem test {n0 v q r : Int} (hq : 0 ≤ q ∧ q < 4294967296) (hb : 0 ≤ n0 ∧ n0 < 4294967296) (hr : 0 ≤ r ∧ r < 4294967296) (hv : 0 ≤ v ∧ v < 4294967296) :
    IntKind.u64.wrap (q * n0) = q * n0 ∧ IntKind.u64.wrap (IntKind.u64.wrap (4294967296 * r) + v) = 4294967296 * r + v := by
  have h1 : q * n0 ≤ 4294967295 * 4294967295 := Int.mul_le_mul (by omega) (by omega) hb.1 (by omega)
  have h2 : 0 ≤ q * n0 := Int.mul_nonneg hq.1 hb.1
  rw [u_w, u_w, u_w]
  generalize q * n0 = p at *
  omega
theorem loop0 {y n1 n0 u v : Int} (s z : Int) (K : Nat) (h : Nm y n1 n0) (hu : 0 ≤ u ∧ u < y) (hv : 0 ≤ v ∧ v < 4294967296) :
    ∀ (n : Nat) (q r : Int), Est y n1 n0 u v q r → r + n * 2147483648 ≥ 4294967296 → ∃ (K' : Nat) (p : Int), K ≤ K' ∧ bits_Div64.l0 (2 * n + K) y s n1 n0 u v z q r = bits_Div64.j2 K' y s n1 n0 u v z p ∧ 0 ≤ p ∧ p * y ≤ u * 4294967296 + v ∧ u * 4294967296 + v < (p + 1) * y
  | 0, q, r, i, hn => by have := i.rr; omega
  | n + 1, q, r, i, hn => by
    have hr := i.rr
    have hq := i.qq
    have ha := h.a
    rw [show 2 * (n + 1) + K = (2 * n + K) + 1 + 1 by omega, bits_Div64.l0]
    have e1 : IntKind.u64.wrap (r + n1) = r + n1 := by rw [u_w]; omega
    have yes : (q ≥ 4294967296 ∨ q * n0 > 4294967296 * r + v) → ∃ (K' : Nat) (p : Int), K ≤ K' ∧ bits_Div64.j1 (2 * n + K + 1) y s n1 n0 u v z q r true = bits_Div64.j2 K' y s n1 n0 u v z p ∧ 0 ≤ p ∧ p * y ≤ u * 4294967296 + v ∧ u * 4294967296 + v < (p + 1) * y := by
      intro c
      obtain ⟨b1, b2⟩ := big h hu hv i c
      have e2 : IntKind.u64.wrap (q - 1) = q - 1 := by rw [u_w]; omega
      rw [bits_Div64.j1, if_pos rfl, e1, e2]
      by_cases d : r + n1 ≥ 4294967296
      · rw [if_pos d]
        exact ⟨2 * n + K, q - 1, by omega, rfl, by omega, last h hu hv i c d, by rw [Int.sub_add_cancel]; exact b1⟩
      · rw [if_neg d]
        exact loop0 s z K h hu hv n (q - 1) (r + n1) (next h hu hv i c (by omega)) (by omega)
    by_cases c1 : q ≥ 4294967296
    · rw [if_pos c1]
      exact yes (Or.inl c1)
    · rw [if_neg c1]
      obtain ⟨t1, t2⟩ := test (v := v) (r := r) ⟨hq.1, by omega⟩ h.b hr hv
      rw [t1, t2]
      by_cases c2 : q * n0 > 4294967296 * r + v
      · rw [decide_eq_true c2]
        exact yes (Or.inr c2)
      · rw [decide_eq_false c2, bits_Div64.j1, if_neg (by decide)]
        exact ⟨2 * n + K, q, by omega, rfl, hq.1, small h hu hv i (by omega), i.t⟩
theorem loop1 {y n1 n0 u v : Int} (s z : Int) (K : Nat) (hs : 0 ≤ s) (h : Nm y n1 n0) (hu : 0 ≤ u ∧ u < y) (hv : 0 ≤ v ∧ v < 4294967296) :
    ∀ (n : Nat) (q r : Int), Est y n1 n0 u v q r → r + n * 2147483648 ≥ 4294967296 → ∃ (p : Int), bits_Div64.l1 (2 * n + K) y s n1 n0 v z r u q = some (IntKind.u64.wrap (IntKind.u64.wrap (z * 4294967296) + p), shr .u64 (IntKind.u64.wrap (IntKind.u64.wrap (IntKind.u64.wrap (u * 4294967296) + v) - IntKind.u64.wrap (p * y))) s) ∧ 0 ≤ p ∧ p * y ≤ u * 4294967296 + v ∧ u * 4294967296 + v < (p + 1) * y
  | 0, q, r, i, hn => by have := i.rr; omega
  | n + 1, q, r, i, hn => by
    have hr := i.rr
    have hq := i.qq
    have ha := h.a
    rw [show 2 * (n + 1) + K = (2 * n + K) + 1 + 1 by omega, bits_Div64.l1]
    have e1 : IntKind.u64.wrap (r + n1) = r + n1 := by rw [u_w]; omega
    have yes : (q ≥ 4294967296 ∨ q * n0 > 4294967296 * r + v) → ∃ (p : Int), bits_Div64.j4 (2 * n + K + 1) y s n1 n0 v z r u q true = some (IntKind.u64.wrap (IntKind.u64.wrap (z * 4294967296) + p), shr .u64 (IntKind.u64.wrap (IntKind.u64.wrap (IntKind.u64.wrap (u * 4294967296) + v) - IntKind.u64.wrap (p * y))) s) ∧ 0 ≤ p ∧ p * y ≤ u * 4294967296 + v ∧ u * 4294967296 + v < (p + 1) * y := by
      intro c
      obtain ⟨b1, b2⟩ := big h hu hv i c
      have e2 : IntKind.u64.wrap (q - 1) = q - 1 := by rw [u_w]; omega
      rw [bits_Div64.j4, if_pos rfl, e1, e2]
      by_cases d : r + n1 ≥ 4294967296
      · rw [if_pos d, if_pos hs]
        exact ⟨q - 1, rfl, by omega, last h hu hv i c d, by rw [Int.sub_add_cancel]; exact b1⟩
      · rw [if_neg d]
        exact loop1 s z K hs h hu hv n (q - 1) (r + n1) (next h hu hv i c (by omega)) (by omega)
    by_cases c1 : q ≥ 4294967296
    · rw [if_pos c1]
      exact yes (Or.inl c1)
    · rw [if_neg c1]
      obtain ⟨t1, t2⟩ := test (v := v) (r := r) ⟨hq.1, by omega⟩ h.b hr hv
      rw [t1, t2]
      by_cases c2 : q * n0 > 4294967296 * r + v
      · rw [decide_eq_true c2]
        exact yes (Or.inr c2)
      · rw [decide_eq_false c2, bits_Div64.j4, if_neg (by decide), if_pos hs]
        exact ⟨q, rfl, hq.1, small h hu hv i (by omega), i.t⟩
end Go.Proofs.Ytiicdgimffpckaa.W.Base
