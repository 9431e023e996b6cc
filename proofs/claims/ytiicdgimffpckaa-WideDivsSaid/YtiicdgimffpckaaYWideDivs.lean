/- The law WideDivs over values alone; in one text, since a claim has at most 60 files. -/
import Derived.Test.YtiicdgimffpckaaYWideMulBase
import Derived.Lib.ItoaNum
import Derived.Laws.BitsAllLaws
import Derived.Test.YtiicdgimffpckaaYWideRefBits
import Derived.Test.YtiicdgimffpckaaSWideDivs
/- math/bits.Div64: each digit of the quotient is found by its estimate and at most two steps down. -/
namespace Go.Proofs.Ytiicdgimffpckaa.W.Base
open Go.RowKit Go.Proofs.YtiicdgimffpckaaW.PrintWords Go.Proofs.YtiicdgimffpckaaW.PrintLast Go.Proofs.YtiicdgimffpckaaW.PrintMore Go.Proofs.Ytiicdgimffpckaa.W
set_option linter.unusedVariables false
set_option linter.unusedSimpArgs false
/-- The divisor, its top bit set, in two halves. -/
structure Nm (y n1 n0 : Int) : Prop where
  e : y = n1 * 4294967296 + n0
  a : 2147483648 ≤ n1 ∧ n1 < 4294967296
  b : 0 ≤ n0 ∧ n0 < 4294967296
/-- The estimate is not below the digit; what is left fits. -/
structure Est (y n1 n0 u v q r : Int) : Prop where
  s : q * n1 + r = u
  rr : 0 ≤ r ∧ r < 4294967296
  qq : 0 ≤ q ∧ q ≤ 4294967297
  t : u * 4294967296 + v < (q + 1) * y
theorem start {y n1 n0 u v : Int} (h : Nm y n1 n0) (hu : 0 ≤ u ∧ u < y) (hv : 0 ≤ v ∧ v < 4294967296) : Est y n1 n0 u v (u / n1) (u - u / n1 * n1) := by
  obtain ⟨e, a, b⟩ := h
  have h1 : u / n1 * n1 + u % n1 = u := by rw [Int.mul_comm]; exact Int.mul_ediv_add_emod u n1
  have h2 := Int.emod_nonneg u (show n1 ≠ 0 by omega)
  have h3 := Int.emod_lt_of_pos u (show 0 < n1 by omega)
  have h4 : 0 ≤ u / n1 := Int.ediv_nonneg hu.1 (by omega)
  generalize u / n1 = q at *
  generalize u % n1 = r at *
  have h5 : q ≤ 4294967297 := by
    rcases Int.lt_or_le 4294967297 q with h | h
    · have := Int.mul_le_mul_of_nonneg_right (show 4294967298 ≤ q by omega) (show 0 ≤ n1 by omega)
      omega
    · exact h
  refine ⟨by omega, by omega, ⟨h4, h5⟩, ?_⟩
  have e2 : (q + 1) * y = (q * n1) * 4294967296 + n1 * 4294967296 + (q * n0 + n0) := by rw [e]; grind
  have h6 : 0 ≤ q * n0 := Int.mul_nonneg h4 b.1
  rw [e2]
  generalize q * n1 = p at *
  generalize q * n0 = p' at *
  omega
theorem big {y n1 n0 u v q r : Int} (h : Nm y n1 n0) (hu : 0 ≤ u ∧ u < y) (hv : 0 ≤ v ∧ v < 4294967296) (i : Est y n1 n0 u v q r) (c : q ≥ 4294967296 ∨ q * n0 > 4294967296 * r + v) : u * 4294967296 + v < q * y ∧ 1 ≤ q := by
  obtain ⟨e, a, b⟩ := h
  obtain ⟨s, hr, hq, t⟩ := i
  have e2 : q * y = (q * n1) * 4294967296 + q * n0 := by rw [e]; grind
  have h1 : u * 4294967296 + v < q * y := by
    rcases c with c | c
    · have := Int.mul_le_mul_of_nonneg_right c (show 0 ≤ y by omega)
      omega
    · rw [e2]
      generalize q * n1 = p at *
      generalize q * n0 = p' at *
      omega
  refine ⟨h1, ?_⟩
  rcases Int.lt_or_le 0 q with h | h
  · omega
  · have : q = 0 := by omega
    subst this
    omega
theorem small {y n1 n0 u v q r : Int} (h : Nm y n1 n0) (hu : 0 ≤ u ∧ u < y) (hv : 0 ≤ v ∧ v < 4294967296) (i : Est y n1 n0 u v q r) (c : q * n0 ≤ 4294967296 * r + v) : q * y ≤ u * 4294967296 + v := by
  obtain ⟨e, a, b⟩ := h
  obtain ⟨s, hr, hq, t⟩ := i
  have e2 : q * y = (q * n1) * 4294967296 + q * n0 := by rw [e]; grind
  rw [e2]
  generalize q * n1 = p at *
  generalize q * n0 = p' at *
  omega
theorem last {y n1 n0 u v q r : Int} (h : Nm y n1 n0) (hu : 0 ≤ u ∧ u < y) (hv : 0 ≤ v ∧ v < 4294967296) (i : Est y n1 n0 u v q r) (c : q ≥ 4294967296 ∨ q * n0 > 4294967296 * r + v) (d : r + n1 ≥ 4294967296) : (q - 1) * y ≤ u * 4294967296 + v := by
  obtain ⟨h1, h2⟩ := big h hu hv i c
  obtain ⟨e, a, b⟩ := h
  obtain ⟨s, hr, hq, t⟩ := i
  have e2 : (q - 1) * y = (q * n1 - n1) * 4294967296 + (q - 1) * n0 := by rw [e]; grind
  have h3 : (q - 1) * n0 ≤ 4294967296 * 4294967295 := Int.mul_le_mul (by omega) (by omega) b.1 (by omega)
  rw [e2]
  generalize q * n1 = p at *
  generalize (q - 1) * n0 = p' at *
  omega
theorem next {y n1 n0 u v q r : Int} (h : Nm y n1 n0) (hu : 0 ≤ u ∧ u < y) (hv : 0 ≤ v ∧ v < 4294967296) (i : Est y n1 n0 u v q r) (c : q ≥ 4294967296 ∨ q * n0 > 4294967296 * r + v) (d : r + n1 < 4294967296) : Est y n1 n0 u v (q - 1) (r + n1) := by
  obtain ⟨h1, h2⟩ := big h hu hv i c
  obtain ⟨e, a, b⟩ := h
  obtain ⟨s, hr, hq, t⟩ := i
  refine ⟨?_, by omega, by omega, ?_⟩
  · rw [Int.sub_mul]
    omega
  · rw [Int.sub_add_cancel]
    exact h1
/-- The test, as the program makes it. -/
theorem test {n0 v q r : Int} (hq : 0 ≤ q ∧ q < 4294967296) (hb : 0 ≤ n0 ∧ n0 < 4294967296) (hr : 0 ≤ r ∧ r < 4294967296) (hv : 0 ≤ v ∧ v < 4294967296) :
    IntKind.u64.wrap (q * n0) = q * n0 ∧ IntKind.u64.wrap (IntKind.u64.wrap (4294967296 * r) + v) = 4294967296 * r + v := by
  have h1 : q * n0 ≤ 4294967295 * 4294967295 := Int.mul_le_mul (by omega) (by omega) hb.1 (by omega)
  have h2 : 0 ≤ q * n0 := Int.mul_nonneg hq.1 hb.1
  rw [u_w, u_w, u_w]
  generalize q * n0 = p at *
  omega
theorem loop0 {y n1 n0 u v : Int} (s z : Int) (K : Nat) (h : Nm y n1 n0) (hu : 0 ≤ u ∧ u < y) (hv : 0 ≤ v ∧ v < 4294967296) :
    ∀ (n : Nat) (q r : Int), Est y n1 n0 u v q r → r + n * 2147483648 ≥ 4294967296 → ∃ (K' : Nat) (p : Int), K ≤ K' ∧ bits_Div64.l0 (2 * n + K) y s n1 n0 u v z q r = bits_Div64.j2 K' y s n1 n0 u v z p ∧ 0 ≤ p ∧ p * y ≤ u * 4294967296 + v ∧ u * 4294967296 + v < (p + 1) * y
  | 0, q, r, i, hn => by have := i.rr; omega
  | n + 1, q, r, i, hn => by
    have hr := i.rr
    have hq := i.qq
    have ha := h.a
    rw [show 2 * (n + 1) + K = (2 * n + K) + 1 + 1 by omega, bits_Div64.l0]
    have e1 : IntKind.u64.wrap (r + n1) = r + n1 := by rw [u_w]; omega
    have yes : (q ≥ 4294967296 ∨ q * n0 > 4294967296 * r + v) → ∃ (K' : Nat) (p : Int), K ≤ K' ∧ bits_Div64.j1 (2 * n + K + 1) y s n1 n0 u v z q r true = bits_Div64.j2 K' y s n1 n0 u v z p ∧ 0 ≤ p ∧ p * y ≤ u * 4294967296 + v ∧ u * 4294967296 + v < (p + 1) * y := by
      intro c
      obtain ⟨b1, b2⟩ := big h hu hv i c
      have e2 : IntKind.u64.wrap (q - 1) = q - 1 := by rw [u_w]; omega
      rw [bits_Div64.j1, if_pos rfl, e1, e2]
      by_cases d : r + n1 ≥ 4294967296
      · rw [if_pos d]
        exact ⟨2 * n + K, q - 1, by omega, rfl, by omega, last h hu hv i c d, by rw [Int.sub_add_cancel]; exact b1⟩
      · rw [if_neg d]
        exact loop0 s z K h hu hv n (q - 1) (r + n1) (next h hu hv i c (by omega)) (by omega)
    by_cases c1 : q ≥ 4294967296
    · rw [if_pos c1]
      exact yes (Or.inl c1)
    · rw [if_neg c1]
      obtain ⟨t1, t2⟩ := test (v := v) (r := r) ⟨hq.1, by omega⟩ h.b hr hv
      rw [t1, t2]
      by_cases c2 : q * n0 > 4294967296 * r + v
      · rw [decide_eq_true c2]
        exact yes (Or.inr c2)
      · rw [decide_eq_false c2, bits_Div64.j1, if_neg (by decide)]
        exact ⟨2 * n + K, q, by omega, rfl, hq.1, small h hu hv i (by omega), i.t⟩
theorem loop1 {y n1 n0 u v : Int} (s z : Int) (K : Nat) (hs : 0 ≤ s) (h : Nm y n1 n0) (hu : 0 ≤ u ∧ u < y) (hv : 0 ≤ v ∧ v < 4294967296) :
    ∀ (n : Nat) (q r : Int), Est y n1 n0 u v q r → r + n * 2147483648 ≥ 4294967296 → ∃ (p : Int), bits_Div64.l1 (2 * n + K) y s n1 n0 v z r u q = some (IntKind.u64.wrap (IntKind.u64.wrap (z * 4294967296) + p), shr .u64 (IntKind.u64.wrap (IntKind.u64.wrap (IntKind.u64.wrap (u * 4294967296) + v) - IntKind.u64.wrap (p * y))) s) ∧ 0 ≤ p ∧ p * y ≤ u * 4294967296 + v ∧ u * 4294967296 + v < (p + 1) * y
  | 0, q, r, i, hn => by have := i.rr; omega
  | n + 1, q, r, i, hn => by
    have hr := i.rr
    have hq := i.qq
    have ha := h.a
    rw [show 2 * (n + 1) + K = (2 * n + K) + 1 + 1 by omega, bits_Div64.l1]
    have e1 : IntKind.u64.wrap (r + n1) = r + n1 := by rw [u_w]; omega
    have yes : (q ≥ 4294967296 ∨ q * n0 > 4294967296 * r + v) → ∃ (p : Int), bits_Div64.j4 (2 * n + K + 1) y s n1 n0 v z r u q true = some (IntKind.u64.wrap (IntKind.u64.wrap (z * 4294967296) + p), shr .u64 (IntKind.u64.wrap (IntKind.u64.wrap (IntKind.u64.wrap (u * 4294967296) + v) - IntKind.u64.wrap (p * y))) s) ∧ 0 ≤ p ∧ p * y ≤ u * 4294967296 + v ∧ u * 4294967296 + v < (p + 1) * y := by
      intro c
      obtain ⟨b1, b2⟩ := big h hu hv i c
      have e2 : IntKind.u64.wrap (q - 1) = q - 1 := by rw [u_w]; omega
      rw [bits_Div64.j4, if_pos rfl, e1, e2]
      by_cases d : r + n1 ≥ 4294967296
      · rw [if_pos d, if_pos hs]
        exact ⟨q - 1, rfl, by omega, last h hu hv i c d, by rw [Int.sub_add_cancel]; exact b1⟩
      · rw [if_neg d]
        exact loop1 s z K hs h hu hv n (q - 1) (r + n1) (next h hu hv i c (by omega)) (by omega)
    by_cases c1 : q ≥ 4294967296
    · rw [if_pos c1]
      exact yes (Or.inl c1)
    · rw [if_neg c1]
      obtain ⟨t1, t2⟩ := test (v := v) (r := r) ⟨hq.1, by omega⟩ h.b hr hv
      rw [t1, t2]
      by_cases c2 : q * n0 > 4294967296 * r + v
      · rw [decide_eq_true c2]
        exact yes (Or.inr c2)
      · rw [decide_eq_false c2, bits_Div64.j4, if_neg (by decide), if_pos hs]
        exact ⟨q, rfl, hq.1, small h hu hv i (by omega), i.t⟩
end Go.Proofs.Ytiicdgimffpckaa.W.Base

/- math/bits.Div64 answers the quotient and what is left. -/
namespace Go.Proofs.Ytiicdgimffpckaa.W.Base
open Go.RowKit Go.Proofs.YtiicdgimffpckaaW.PrintWords Go.Proofs.YtiicdgimffpckaaW.PrintLast Go.Proofs.YtiicdgimffpckaaW.PrintMore Go.Proofs.Ytiicdgimffpckaa.W
set_option linter.unusedVariables false
set_option linter.unusedSimpArgs false
theorem lead {y : Int} (hy : 0 < y ∧ y < 18446744073709551616) : ∃ s : Nat, bits_LeadingZeros64.f y = some (s : Int) ∧ s < 64 ∧ 9223372036854775808 ≤ y * 2 ^ s ∧ y * 2 ^ s < 18446744073709551616 := by
  obtain ⟨n, rfl⟩ := Int.eq_ofNat_of_zero_le (Int.le_of_lt hy.1)
  obtain ⟨h1, h2, h3⟩ := Lib.bitLenAux_bounds 64 n (by omega) (by omega)
  have h4 := Lib.bitLen_le n 64 (by omega) (by omega)
  have e : Lib.bitLenAux 64 n = Lib.bitLen n := rfl
  rw [e] at h1 h2 h3
  unfold bits_LeadingZeros64.f bits_Len64.f
  rw [if_pos ⟨by omega, by omega⟩, bs, Int.toNat_natCast]
  generalize Lib.bitLen n = b at *
  refine ⟨64 - b, ?_, by omega, ?_, ?_⟩
  · rw [w_id (by omega) (by omega)]
    congr 1
    omega
  · have h5 : (2 : Nat) ^ (b - 1) * 2 ^ (64 - b) = 9223372036854775808 := by rw [← Nat.pow_add, show b - 1 + (64 - b) = 63 by omega]
    have h6 := Nat.mul_le_mul_right (2 ^ (64 - b)) h2
    rw [h5] at h6
    have h7 : (((n * 2 ^ (64 - b) : Nat)) : Int) = (n : Int) * 2 ^ (64 - b) := by simp
    rw [← h7]
    exact Int.ofNat_le.mpr h6
  · have h5 : (2 : Nat) ^ b * 2 ^ (64 - b) = 18446744073709551616 := by rw [← Nat.pow_add, show b + (64 - b) = 64 by omega]
    have h6 := Nat.mul_lt_mul_of_pos_right h3 (Nat.two_pow_pos (64 - b))
    rw [h5] at h6
    have h7 : (((n * 2 ^ (64 - b) : Nat)) : Int) = (n : Int) * 2 ^ (64 - b) := by simp
    rw [← h7]
    exact Int.ofNat_lt.mpr h6
theorem shl_of {x : Int} {s : Nat} (hs : s < 64) : shl .u64 x (s : Int) = x * 2 ^ s % 18446744073709551616 := by
  unfold shl
  have h1 : IntKind.bits .u64 = 64 := rfl
  rw [u_w, h1, Int.toNat_natCast, Nat.min_eq_left (by omega)]
theorem shr_of {x : Int} {s : Nat} (hs : s ≤ 64) : shr .u64 x (s : Int) = x / 2 ^ s := by
  unfold shr
  have h1 : IntKind.bits .u64 = 64 := rfl
  rw [h1, Int.toNat_natCast, Nat.min_eq_left (by omega)]
theorem or_of {h b : Int} {s : Nat} (hh : 0 ≤ h) (hb : 0 ≤ b ∧ b < 2 ^ s) (hm : h * 2 ^ s + b < 18446744073709551616) : Go.bits .or .u64 (h * 2 ^ s) b = h * 2 ^ s + b := by
  obtain ⟨n, rfl⟩ := Int.eq_ofNat_of_zero_le hh
  obtain ⟨c, rfl⟩ := Int.eq_ofNat_of_zero_le hb.1
  have e1 : ((n : Int) * 2 ^ s) = ((2 ^ s * n : Nat) : Int) := by rw [Nat.mul_comm]; simp
  have hc : c < 2 ^ s := by
    have := hb.2
    have e2 : ((2 : Int) ^ s) = ((2 ^ s : Nat) : Int) := by simp
    rw [e2] at this
    exact Int.ofNat_lt.mp this
  rw [e1] at hm ⊢
  have e3 := Nat.two_pow_add_eq_or_of_lt hc n
  rw [u64_or_nat _ _ (by omega) (by omega), ← e3, Int.natCast_add]
theorem est {Y n1 n0 u v : Int} (h : Nm Y n1 n0) (hY : Y < 18446744073709551616) (hu : 0 ≤ u ∧ u < Y) (hv : 0 ≤ v ∧ v < 4294967296) :
    IntKind.u64.wrap (Int.tdiv u n1) = u / n1 ∧ IntKind.u64.wrap (u - IntKind.u64.wrap (u / n1 * n1)) = u - u / n1 * n1 := by
  have i := start h hu hv
  have h1 := i.s
  have h2 := i.rr
  have h3 := i.qq
  have ha := h.a
  have h4 : 0 ≤ u / n1 * n1 := Int.mul_nonneg h3.1 (by omega)
  rw [u_w, u_w, u_w, Int.tdiv_eq_ediv_of_nonneg hu.1]
  generalize u / n1 = q at *
  generalize q * n1 = p at *
  omega
theorem Div64_ok (K : Nat) {h l y : Int} (hy : 0 < y ∧ y < 18446744073709551616) (hh : 0 ≤ h ∧ h < y) (hl : 0 ≤ l ∧ l < 18446744073709551616) :
    bits_Div64.f (20 + K) h l y = some ((h * 18446744073709551616 + l) / y, (h * 18446744073709551616 + l) % y) := by
  unfold bits_Div64.f
  rw [if_neg (by omega), if_neg (by omega)]
  by_cases h0 : h = 0
  · subst h0
    have e1 := Int.ediv_nonneg hl.1 (Int.le_of_lt hy.1)
    have e2 := Int.ediv_le_self y hl.1
    rw [if_pos rfl, u_w, Int.tdiv_eq_ediv_of_nonneg hl.1, Int.tmod_eq_emod_of_nonneg hl.1, Int.zero_mul, Int.zero_add, Int.emod_eq_of_lt e1 (by omega)]
  · rw [if_neg h0]
    obtain ⟨s, es, hs, y1, y2⟩ := lead hy
    have w1 : IntKind.u64.wrap (s : Int) = (s : Int) := by rw [u_w]; omega
    have w2 : IntKind.u64.wrap (64 - (s : Int)) = ((64 - s : Nat) : Int) := by rw [u_w]; omega
    rw [es, bs, w1, w2, if_pos (by omega), if_pos (by omega)]
    simp only [shl_of hs, shr_of (show 64 - s ≤ 64 by omega)]
    have hT : (0 : Int) < 2 ^ s := Int.pow_pos (by omega)
    have hM : (18446744073709551616 : Int) = 2 ^ (64 - s) * 2 ^ s := by
      rw [← Int.pow_add, show 64 - s + s = 64 by omega]
      decide
    have hT2 : (0 : Int) < 2 ^ (64 - s) := Int.pow_pos (by omega)
    have hLM : l * 2 ^ s / 18446744073709551616 = l / 2 ^ (64 - s) := by rw [hM]; exact Int.mul_ediv_mul_of_pos_left _ _ hT
    have hhT : h * 2 ^ s + 2 ^ s ≤ y * 2 ^ s := by
      have := Int.mul_le_mul_of_nonneg_right (show h + 1 ≤ y by omega) (Int.le_of_lt hT)
      rw [Int.add_mul] at this
      omega
    have hh0 : 0 ≤ h * 2 ^ s := Int.mul_nonneg hh.1 (Int.le_of_lt hT)
    have hL0 : 0 ≤ l * 2 ^ s := Int.mul_nonneg hl.1 (Int.le_of_lt hT)
    have hL1 : l * 2 ^ s < 18446744073709551616 * 2 ^ s := Int.mul_lt_mul_of_pos_right hl.2 hT
    have hb : 0 ≤ l / 2 ^ (64 - s) ∧ l / 2 ^ (64 - s) < 2 ^ s := by
      rw [← hLM]
      refine ⟨by omega, Int.ediv_lt_of_lt_mul (by omega) (by rw [Int.mul_comm (2 ^ s)]; exact hL1)⟩
    have hy3 : y * 2 ^ s % 18446744073709551616 = y * 2 ^ s := by omega
    have hh3 : h * 2 ^ s % 18446744073709551616 = h * 2 ^ s := by omega
    rw [hy3, hh3, or_of hh.1 hb (by omega), ← hLM]
    have hV : (h * 2 ^ s) * 18446744073709551616 + l * 2 ^ s = (h * 18446744073709551616 + l) * 2 ^ s := by grind
    have hVY : (h * 18446744073709551616 + l) * 2 ^ s < (y * 2 ^ s) * 18446744073709551616 := by
      have h1 := Int.mul_lt_mul_of_pos_right (show h * 18446744073709551616 + l < y * 18446744073709551616 by omega) hT
      have h2 : y * 18446744073709551616 * 2 ^ s = (y * 2 ^ s) * 18446744073709551616 := by grind
      rw [h2] at h1
      exact h1
    have hV0 : 0 ≤ (h * 18446744073709551616 + l) * 2 ^ s := Int.mul_nonneg (by omega) (Int.le_of_lt hT)
    have hVl : 0 ≤ h * 18446744073709551616 + l ∧ h * 18446744073709551616 + l < y * 18446744073709551616 := by omega
    clear hLM hM hT2 hb hhT hL1 w1 w2 es hy3 hh3
    generalize hTe : (2 : Int) ^ s = T at *
    generalize hYe : y * T = Y at *
    generalize h * T = H at *
    generalize l * T = L at *
    generalize h * 18446744073709551616 + l = V at *
    have hN : Nm Y (Y / 4294967296) (Y % 4294967296) := ⟨by omega, by omega, by omega⟩
    rw [bits_low Y (by omega), bits_low (L % 18446744073709551616) (md _), if_neg (by omega)]
    have hW : (H + L / 18446744073709551616) * 18446744073709551616 + L % 18446744073709551616 = V * T := by omega
    have hu : 0 ≤ H + L / 18446744073709551616 ∧ H + L / 18446744073709551616 < Y := by omega
    generalize H + L / 18446744073709551616 = u at *
    have hml := md L
    generalize L % 18446744073709551616 = L0 at *
    have hv1 : 0 ≤ L0 / 4294967296 ∧ L0 / 4294967296 < 4294967296 := by omega
    have hv0 : 0 ≤ L0 % 4294967296 ∧ L0 % 4294967296 < 4294967296 := by omega
    obtain ⟨c1, c2⟩ := est hN y2 hu hv1
    rw [c1, c2]
    have st := start hN hu hv1
    obtain ⟨K', p, hK, eK, p0, p1, p2⟩ := loop0 (s : Int) (L0 % 4294967296) (16 + K) hN hu hv1 2 _ _ st (by have := st.rr; omega)
    rw [show 20 + K = 2 * 2 + (16 + K) by omega, eK]
    obtain ⟨J, rfl⟩ : ∃ J, K' = 2 * 2 + J + 1 := ⟨K' - 5, by omega⟩
    rw [bits_Div64.j2, if_neg (by omega)]
    rw [Int.add_mul, Int.one_mul] at p2
    have e21 : IntKind.u64.wrap (IntKind.u64.wrap (IntKind.u64.wrap (u * 4294967296) + L0 / 4294967296) - IntKind.u64.wrap (p * Y)) = u * 4294967296 + L0 / 4294967296 - p * Y := by
      rw [u_w, u_w, u_w, u_w]
      generalize p * Y = pY at *
      omega
    have hu2 : 0 ≤ u * 4294967296 + L0 / 4294967296 - p * Y ∧ u * 4294967296 + L0 / 4294967296 - p * Y < Y := by omega
    rw [e21]
    have hpB : (u * 4294967296 + L0 / 4294967296 - p * Y) * 4294967296 + L0 % 4294967296 = V * T - (p * 4294967296) * Y := by
      have : (p * 4294967296) * Y = (p * Y) * 4294967296 := by grind
      rw [this]
      generalize p * Y = pY at *
      omega
    generalize u * 4294967296 + L0 / 4294967296 - p * Y = u2 at *
    obtain ⟨d1, d2⟩ := est hN y2 hu2 hv0
    rw [d1, d2]
    have st2 := start hN hu2 hv0
    obtain ⟨q, eq, q0, q1, q2⟩ := loop1 (s : Int) p J (by omega) hN hu2 hv0 2 _ _ st2 (by have := st2.rr; omega)
    rw [eq, shr_of (by omega), hTe]
    have hr : (p * 4294967296 + q) * Y = (p * 4294967296) * Y + q * Y := by grind
    rw [Int.add_mul, Int.one_mul] at q2
    have hR : (V - (p * 4294967296 + q) * y) * T = u2 * 4294967296 + L0 % 4294967296 - q * Y := by
      have : (V - (p * 4294967296 + q) * y) * T = V * T - (p * 4294967296 + q) * Y := by rw [← hYe]; grind
      rw [this, hr, hpB]
      omega
    have hR0 : 0 ≤ V - (p * 4294967296 + q) * y := by
      rcases Int.lt_or_le (V - (p * 4294967296 + q) * y) 0 with g | g
      · have := Int.mul_lt_mul_of_pos_right g hT
        rw [hR, Int.zero_mul] at this
        omega
      · exact g
    have hR1 : V - (p * 4294967296 + q) * y < y := by
      refine Int.lt_of_mul_lt_mul_right (a := T) ?_ (Int.le_of_lt hT)
      rw [hR, hYe]
      omega
    obtain ⟨f1, f2⟩ := (Int.ediv_emod_unique (a := V) (b := y) (r := V - (p * 4294967296 + q) * y) (q := p * 4294967296 + q) hy.1).mpr ⟨by rw [Int.mul_comm y]; omega, hR0, hR1⟩
    have hQ : p * 4294967296 + q < 18446744073709551616 := by
      rw [← f1]
      exact Int.ediv_lt_of_lt_mul hy.1 (by rw [Int.mul_comm]; exact hVl.2)
    have g1 : IntKind.u64.wrap (IntKind.u64.wrap (p * 4294967296) + q) = p * 4294967296 + q := by rw [u_w, u_w]; omega
    have g2 : IntKind.u64.wrap (IntKind.u64.wrap (IntKind.u64.wrap (u2 * 4294967296) + L0 % 4294967296) - IntKind.u64.wrap (q * Y)) = u2 * 4294967296 + L0 % 4294967296 - q * Y := by
      rw [u_w, u_w, u_w, u_w]
      generalize q * Y = qY at *
      clear hr hR hR0 hR1 f1 f2 hQ g1 hpB hW hYe hVY hV0 hVl p1 p2 hV
      omega
    rw [g1, g2, ← hR, Int.mul_ediv_cancel _ (Int.ne_of_gt hT), f1, f2]
end Go.Proofs.Ytiicdgimffpckaa.W.Base

/- wide (layer 1): Div rounds down, for numbers of either sign. -/
namespace Go.Proofs.Ytiicdgimffpckaa.W.Base
open Go.RowKit Go.Proofs.YtiicdgimffpckaaW.PrintWords Go.Proofs.YtiicdgimffpckaaW.PrintLast Go.Proofs.YtiicdgimffpckaaW.PrintMore Go.Proofs.Ytiicdgimffpckaa.W
set_option linter.unusedVariables false
set_option linter.unusedSimpArgs false
/-- A number not below 0, in two steps. -/
theorem two_steps (K : Nat) {h l d : Int} (hd : 1 ≤ d ∧ d < 9223372036854775808) (hh : 0 ≤ h ∧ h < 9223372036854775808) (hl : 0 ≤ l ∧ l < 18446744073709551616) :
    ∃ q0 : Int, bits_Div64.f (20 + K) 0 (IntKind.u64.wrap h) (IntKind.u64.wrap d) = some (h / d, h % d) ∧ bits_Div64.f (20 + K) (h % d) l (IntKind.u64.wrap d) = some (q0, (h * 18446744073709551616 + l) % d) ∧
      0 ≤ q0 ∧ q0 < 18446744073709551616 ∧ (h * 18446744073709551616 + l) / d = h / d * 18446744073709551616 + q0 ∧ 0 ≤ h / d ∧ h / d < 9223372036854775808 := by
  have e1 : IntKind.u64.wrap h = h := by rw [u_w]; omega
  have e2 : IntKind.u64.wrap d = d := by rw [u_w]; omega
  have m0 := Int.emod_nonneg h (show d ≠ 0 by omega)
  have m1 := Int.emod_lt_of_pos h (show 0 < d by omega)
  have s := Int.mul_ediv_add_emod h d
  have v0 := Int.ediv_nonneg hh.1 (show 0 ≤ d by omega)
  have v1 := Int.ediv_le_self d hh.1
  rw [e1, e2, Div64_ok K ⟨by omega, by omega⟩ ⟨by omega, by omega⟩ ⟨by omega, by omega⟩, Int.zero_mul, Int.zero_add, Div64_ok K ⟨by omega, by omega⟩ ⟨m0, m1⟩ hl]
  have t0 : 0 ≤ h % d * 18446744073709551616 + l := by omega
  have t1 : h % d * 18446744073709551616 + l < d * 18446744073709551616 := by omega
  have e3 : h * 18446744073709551616 + l = d * (h / d * 18446744073709551616) + (h % d * 18446744073709551616 + l) := by
    have : d * (h / d * 18446744073709551616) = (d * (h / d)) * 18446744073709551616 := by grind
    rw [this]
    omega
  have e4 : (h * 18446744073709551616 + l) % d = (h % d * 18446744073709551616 + l) % d := by rw [e3, Int.mul_add_emod_self_left]
  have e5 : (h * 18446744073709551616 + l) / d = h / d * 18446744073709551616 + (h % d * 18446744073709551616 + l) / d := by rw [e3, Int.mul_add_ediv_left _ _ (by omega)]
  rw [e4, e5]
  exact ⟨_, rfl, rfl, Int.ediv_nonneg t0 (by omega), Int.ediv_lt_of_lt_mul (by omega) (by first | exact t1 | (rw [Int.mul_comm]; exact t1) | omega), rfl, v0, by omega⟩
theorem Div_ok (K : Nat) {h l d : Int} (hd : 1 ≤ d ∧ d < 9223372036854775808) (hh : -9223372036854775808 ≤ h ∧ h < 9223372036854775808) (hl : 0 ≤ l ∧ l < 18446744073709551616) :
    wide_Div.f (21 + K) h l d = some ((h * 18446744073709551616 + l) / d / 18446744073709551616, (h * 18446744073709551616 + l) / d % 18446744073709551616, (h * 18446744073709551616 + l) % d, 0) := by
  unfold wide_Div.f
  rw [if_neg (by omega), show 21 + K = (20 + K) + 1 by omega]
  by_cases h0 : h < 0
  · rw [if_pos h0, Sub_ok (by omega) hl, bs, wide_Div.j0]
    have e1 : wrap64 (-1 - h + (18446744073709551615 - l) / 18446744073709551616) = -1 - h := by unfold wrap64; omega
    have e2 : (18446744073709551615 - l) % 18446744073709551616 = 18446744073709551615 - l := by omega
    simp only [e1, e2]
    obtain ⟨q0, f1, f2, g0, g1, g2, g3, g4⟩ := two_steps K hd (h := -1 - h) (l := 18446744073709551615 - l) (by omega) (by omega)
    rw [f1, bs, f2, bs, if_pos trivial]
    generalize (-1 - h) / d = qh at *
    have r0 := Int.emod_nonneg ((-1 - h) * 18446744073709551616 + (18446744073709551615 - l)) (show d ≠ 0 by omega)
    have r1 := Int.emod_lt_of_pos ((-1 - h) * 18446744073709551616 + (18446744073709551615 - l)) (show 0 < d by omega)
    have r2 := Int.mul_ediv_add_emod ((-1 - h) * 18446744073709551616 + (18446744073709551615 - l)) d
    rw [g2] at r2
    generalize ((-1 - h) * 18446744073709551616 + (18446744073709551615 - l)) % d = r at *
    have e3 : wrap64 qh = qh := w_id (by omega) (by omega)
    have e4 : wrap64 (wrap64 (d - 1) - wrap64 r) = d - 1 - r := by unfold wrap64; omega
    simp only [e3, e4]
    rw [Sub_ok (by omega) ⟨g0, g1⟩, bs]
    have e5 : wrap64 (-1 - qh + (18446744073709551615 - q0) / 18446744073709551616) = -1 - qh := by unfold wrap64; omega
    have e6 : (18446744073709551615 - q0) % 18446744073709551616 = 18446744073709551615 - q0 := by omega
    obtain ⟨k1, k2⟩ := (Int.ediv_emod_unique (a := h * 18446744073709551616 + l) (b := d) (r := d - 1 - r) (q := -1 - (qh * 18446744073709551616 + q0)) (by omega)).mpr ⟨by rw [Int.mul_sub]; omega, by omega, by omega⟩
    rw [k1, k2]
    simp only [e5, e6]
    congr 2
    · omega
    · congr 1
      omega
  · rw [if_neg h0, wide_Div.j0]
    obtain ⟨q0, f1, f2, g0, g1, g2, g3, g4⟩ := two_steps K hd (h := h) (l := l) (by omega) hl
    rw [f1, bs, f2, bs, if_neg (fun c => by cases c), g2]
    have r0 := Int.emod_nonneg (h * 18446744073709551616 + l) (show d ≠ 0 by omega)
    have r1 := Int.emod_lt_of_pos (h * 18446744073709551616 + l) (show 0 < d by omega)
    generalize (h * 18446744073709551616 + l) % d = r at *
    generalize h / d = qh at *
    have e3 : wrap64 qh = qh := w_id (by omega) (by omega)
    have e4 : wrap64 r = r := w_id (by omega) (by omega)
    simp only [e3, e4]
    congr 2
    · omega
    · congr 1
      omega
end Go.Proofs.Ytiicdgimffpckaa.W.Base

/- The document's division, bit by bit. -/
namespace Go.Proofs.Ytiicdgimffpckaa.W.Base
open Go.RowKit Go.Proofs.YtiicdgimffpckaaW.PrintWords Go.Proofs.YtiicdgimffpckaaW.PrintLast Go.Proofs.YtiicdgimffpckaaW.PrintMore Go.Proofs.Ytiicdgimffpckaa.W
set_option linter.unusedVariables false
set_option linter.unusedSimpArgs false
theorem bit_of {p p' a rest : Int} (hp : 0 < p) (h : 65536 = 2 * p * p') : (a + 65536 * rest) / p % 2 = a / p % 2 := by
  have e : a + 65536 * rest = a + (2 * (p' * rest)) * p := by rw [h]; grind
  rw [e, Int.add_mul_ediv_right _ _ (by omega)]
  omega
theorem bit_D {R : Int} {r : T8} (hr : D R r) (i : Nat) (hi : i < 128) :
    calamusref01_bit.f r.1 r.2.1 r.2.2.1 r.2.2.2.1 r.2.2.2.2.1 r.2.2.2.2.2.1 r.2.2.2.2.2.2.1 r.2.2.2.2.2.2.2 (i : Int) = some (R / 2 ^ i % 2) := by
  obtain ⟨a0, a1, a2, a3, a4, a5, a6, a7⟩ := r
  obtain ⟨p0, p1, p2, p3, p4, p5, p6, p7, v⟩ := hr
  simp only at p0 p1 p2 p3 p4 p5 p6 p7 v
  unfold calamusref01_bit.f calamusref01_bit.sel
  have ei : ((i : Int) % 16).toNat = i % 16 := by omega
  have eq : ((i : Int) / 16).toNat = i / 16 := by omega
  have hpow : (2 : Int) ^ i = 65536 ^ (i / 16) * 2 ^ (i % 16) := by
    have : i = 16 * (i / 16) + i % 16 := by omega
    rw [show (65536 : Int) = 2 ^ 16 by decide, ← Int.pow_mul, ← Int.pow_add, ← this]
  have hpos : (0 : Int) < 2 ^ (i % 16) := Int.pow_pos (by omega)
  have hc : (65536 : Int) = 2 * 2 ^ (i % 16) * 2 ^ (15 - i % 16) := by
    have h1 : (2 : Int) ^ (i % 16) * 2 ^ (15 - i % 16) = 32768 := by
      rw [← Int.pow_add, show i % 16 + (15 - i % 16) = 15 by omega]
      decide
    rw [Int.mul_assoc, h1]
    decide
  rw [ei, eq, hpow]
  have hdd : R / (65536 ^ (i / 16) * 2 ^ (i % 16)) = R / 65536 ^ (i / 16) / 2 ^ (i % 16) := (Int.ediv_ediv_of_nonneg (Int.pow_nonneg (by omega))).symm
  rw [hdd]
  generalize (2 : Int) ^ (i % 16) = p at *
  generalize (2 : Int) ^ (15 - i % 16) = p' at *
  have hq : i / 16 = 0 ∨ i / 16 = 1 ∨ i / 16 = 2 ∨ i / 16 = 3 ∨ i / 16 = 4 ∨ i / 16 = 5 ∨ i / 16 = 6 ∨ i / 16 = 7 := by omega
  clear hpow ei eq hdd
  rcases hq with h | h | h | h | h | h | h | h
  · rw [h, show (65536 : Int) ^ 0 = 1 by decide]
    have hx : R / 1 = a0 + 65536 * (a1 + 65536 * a2 + 4294967296 * a3 + 281474976710656 * a4 + 18446744073709551616 * a5 + 1208925819614629174706176 * a6 + 79228162514264337593543950336 * a7) := by
      clear hc
      omega
    rw [hx, bit_of hpos hc]
    have hg : [a0, a1, a2, a3, a4, a5, a6, a7].getD 0 0 = a0 := rfl
    rw [hg, if_pos ⟨by omega, by omega, p0.1, by omega⟩]
  · rw [h, show (65536 : Int) ^ 1 = 65536 by decide]
    have hx : R / 65536 = a1 + 65536 * (a2 + 65536 * a3 + 4294967296 * a4 + 281474976710656 * a5 + 18446744073709551616 * a6 + 1208925819614629174706176 * a7) := by
      clear hc
      omega
    rw [hx, bit_of hpos hc]
    have hg : [a0, a1, a2, a3, a4, a5, a6, a7].getD 1 0 = a1 := rfl
    rw [hg, if_pos ⟨by omega, by omega, p1.1, by omega⟩]
  · rw [h, show (65536 : Int) ^ 2 = 4294967296 by decide]
    have hx : R / 4294967296 = a2 + 65536 * (a3 + 65536 * a4 + 4294967296 * a5 + 281474976710656 * a6 + 18446744073709551616 * a7) := by
      clear hc
      omega
    rw [hx, bit_of hpos hc]
    have hg : [a0, a1, a2, a3, a4, a5, a6, a7].getD 2 0 = a2 := rfl
    rw [hg, if_pos ⟨by omega, by omega, p2.1, by omega⟩]
  · rw [h, show (65536 : Int) ^ 3 = 281474976710656 by decide]
    have hx : R / 281474976710656 = a3 + 65536 * (a4 + 65536 * a5 + 4294967296 * a6 + 281474976710656 * a7) := by
      clear hc
      omega
    rw [hx, bit_of hpos hc]
    have hg : [a0, a1, a2, a3, a4, a5, a6, a7].getD 3 0 = a3 := rfl
    rw [hg, if_pos ⟨by omega, by omega, p3.1, by omega⟩]
  · rw [h, show (65536 : Int) ^ 4 = 18446744073709551616 by decide]
    have hx : R / 18446744073709551616 = a4 + 65536 * (a5 + 65536 * a6 + 4294967296 * a7) := by
      clear hc
      omega
    rw [hx, bit_of hpos hc]
    have hg : [a0, a1, a2, a3, a4, a5, a6, a7].getD 4 0 = a4 := rfl
    rw [hg, if_pos ⟨by omega, by omega, p4.1, by omega⟩]
  · rw [h, show (65536 : Int) ^ 5 = 1208925819614629174706176 by decide]
    have hx : R / 1208925819614629174706176 = a5 + 65536 * (a6 + 65536 * a7) := by
      clear hc
      omega
    rw [hx, bit_of hpos hc]
    have hg : [a0, a1, a2, a3, a4, a5, a6, a7].getD 5 0 = a5 := rfl
    rw [hg, if_pos ⟨by omega, by omega, p5.1, by omega⟩]
  · rw [h, show (65536 : Int) ^ 6 = 79228162514264337593543950336 by decide]
    have hx : R / 79228162514264337593543950336 = a6 + 65536 * (a7) := by
      clear hc
      omega
    rw [hx, bit_of hpos hc]
    have hg : [a0, a1, a2, a3, a4, a5, a6, a7].getD 6 0 = a6 := rfl
    rw [hg, if_pos ⟨by omega, by omega, p6.1, by omega⟩]
  · rw [h, show (65536 : Int) ^ 7 = 5192296858534827628530496329220096 by decide]
    have hx : R / 5192296858534827628530496329220096 = a7 + 65536 * (0) := by
      clear hc
      omega
    rw [hx, bit_of hpos hc]
    have hg : [a0, a1, a2, a3, a4, a5, a6, a7].getD 7 0 = a7 := rfl
    rw [hg, if_pos ⟨by omega, by omega, p7.1, by omega⟩]
theorem div_loop {A d : Int} {a : T8} (ha : D A a) (hd : 1 ≤ d ∧ d < 9223372036854775808) (K : Nat) :
    ∀ (n : Nat) (m r : Int) (q : T8), n ≤ 128 → 0 ≤ m → 0 ≤ r → r < d → D (2 ^ n * m) q → A / 2 ^ n = m * d + r →
    ∃ t : T8, calamusref01_Div.l0 (n + 1 + K) d r ((n : Int) - 1) a.1 a.2.1 a.2.2.1 a.2.2.2.1 a.2.2.2.2.1 a.2.2.2.2.2.1 a.2.2.2.2.2.2.1 a.2.2.2.2.2.2.2 q.1 q.2.1 q.2.2.1 q.2.2.2.1 q.2.2.2.2.1 q.2.2.2.2.2.1 q.2.2.2.2.2.2.1 q.2.2.2.2.2.2.2 = some (t.1, t.2.1, t.2.2.1, t.2.2.2.1, t.2.2.2.2.1, t.2.2.2.2.2.1, t.2.2.2.2.2.2.1, t.2.2.2.2.2.2.2, A % d) ∧ D (A / d) t
  | 0, m, r, q, _, h0, r0, r1, hq, h2 => by
    rw [show 0 + 1 + K = K + 1 by omega, calamusref01_Div.l0, if_neg (by omega)]
    have e1 : wrap64 r = r := w_id (by omega) (by omega)
    rw [Int.pow_zero, Int.ediv_one] at h2
    rw [Int.pow_zero, Int.one_mul] at hq
    obtain ⟨k1, k2⟩ := (Int.ediv_emod_unique (a := A) (b := d) (r := r) (q := m) (by omega)).mpr ⟨by rw [h2, Int.mul_comm]; omega, r0, r1⟩
    rw [e1, k1, k2]
    exact ⟨q, rfl, hq⟩
  | n + 1, m, r, q, hn, h0, r0, r1, hq, h2 => by
    rw [show n + 1 + 1 + K = (n + 1 + K) + 1 by omega, calamusref01_Div.l0, if_pos (by omega)]
    have e0 : ((n + 1 : Nat) : Int) - 1 = (n : Int) := by omega
    have e1 : wrap64 ((n : Int) - 1) = (n : Int) - 1 := w_id (by omega) (by omega)
    rw [e0, e1, bit_D ha n (by omega), bs]
    have hb : A / 2 ^ n = 2 * (A / 2 ^ (n + 1)) + A / 2 ^ n % 2 := by
      have : A / 2 ^ (n + 1) = A / 2 ^ n / 2 := by rw [Int.pow_succ]; exact (Int.ediv_ediv_of_nonneg (Int.pow_nonneg (by omega))).symm
      rw [this]
      omega
    rw [h2] at hb
    have hbit : 0 ≤ A / 2 ^ n % 2 ∧ A / 2 ^ n % 2 ≤ 1 := by omega
    generalize A / 2 ^ n % 2 = b at *
    have e2 : IntKind.u64.wrap (IntKind.u64.wrap (2 * r) + IntKind.u64.wrap b) = 2 * r + b := by rw [u_w, u_w, u_w]; omega
    have e3 : IntKind.u64.wrap d = d := by rw [u_w]; omega
    have e4 : (2 : Int) ^ (n + 1) * m = 2 ^ n * (2 * m) := by rw [Int.pow_succ]; grind
    rw [e2, e3]
    by_cases c : 2 * r + b ≥ d
    · rw [if_pos c]
      obtain ⟨s, es, hs⟩ := with_D hq n (by omega) m rfl
      have e5 : (2 : Int) ^ (n + 1) * m + 2 ^ n = 2 ^ n * (2 * m + 1) := by rw [e4]; grind
      rw [e5] at hs
      have e6 : IntKind.u64.wrap (2 * r + b - d) = 2 * r + b - d := by rw [u_w]; omega
      rw [es, bs, e6]
      exact div_loop ha hd K n (2 * m + 1) (2 * r + b - d) s (by omega) (by omega) (by omega) (by omega) hs (by rw [hb]; grind)
    · rw [if_neg c]
      rw [e4] at hq
      exact div_loop ha hd K n (2 * m) (2 * r + b) q (by omega) (by omega) (by omega) (by omega) hq (by rw [hb]; grind)
theorem Div_pos (K : Nat) {A d : Int} {a : T8} (ha : D A a) (hA : A < 170141183460469231731687303715884105728) (hd : 1 ≤ d ∧ d < 9223372036854775808) :
    ∃ t : T8, calamusref01_Div.f (130 + K) a.1 a.2.1 a.2.2.1 a.2.2.2.1 a.2.2.2.2.1 a.2.2.2.2.2.1 a.2.2.2.2.2.2.1 a.2.2.2.2.2.2.2 d = some (t.1, t.2.1, t.2.2.1, t.2.2.2.1, t.2.2.2.2.1, t.2.2.2.2.2.1, t.2.2.2.2.2.2.1, t.2.2.2.2.2.2.2, A % d) ∧ D (A / d) t := by
  rw [show 130 + K = (128 + 1 + K) + 1 by omega, calamusref01_Div.f, Sign_D ha, bs]
  have hr := ha.range
  have s0 : sv 0 = 0 := by decide
  have sA : sv A = A := by unfold sv; rw [if_neg (by omega)]
  rw [if_neg (by unfold scmp; rw [sA, s0]; split <;> (try split) <;> omega)]
  have z : D (2 ^ 128 * 0) (0, 0, 0, 0, 0, 0, 0, 0) := nil_D
  have hp : (2 : Int) ^ 128 = 340282366920938463463374607431768211456 := by decide
  exact div_loop ha hd K 128 0 0 (0, 0, 0, 0, 0, 0, 0, 0) (by omega) (by omega) (by omega) (by omega) z (by rw [hp]; omega)
theorem Div_D (K : Nat) {A d : Int} {a : T8} (ha : D A a) (hd : 1 ≤ d ∧ d < 9223372036854775808) :
    ∃ t : T8, calamusref01_Div.f (131 + K) a.1 a.2.1 a.2.2.1 a.2.2.2.1 a.2.2.2.2.1 a.2.2.2.2.2.1 a.2.2.2.2.2.2.1 a.2.2.2.2.2.2.2 d = some (t.1, t.2.1, t.2.2.1, t.2.2.2.1, t.2.2.2.2.1, t.2.2.2.2.2.1, t.2.2.2.2.2.2.1, t.2.2.2.2.2.2.2, sv A % d) ∧ D (sv A / d % 340282366920938463463374607431768211456) t := by
  have hr := ha.range
  by_cases c : A < 170141183460469231731687303715884105728
  · have sA : sv A = A := by unfold sv; rw [if_neg (by omega)]
    rw [sA, show 131 + K = 130 + (1 + K) by omega]
    obtain ⟨t, e, h⟩ := Div_pos (1 + K) ha c hd
    have q0 := Int.ediv_nonneg hr.1 (show 0 ≤ d by omega)
    have q1 := Int.ediv_le_self d hr.1
    rw [Int.emod_eq_of_lt q0 (by omega)]
    exact ⟨t, e, h⟩
  · have sA : sv A = A - 340282366920938463463374607431768211456 := by unfold sv; rw [if_pos (by omega)]
    have s0 : sv 0 = 0 := by decide
    obtain ⟨n, en, hn⟩ := Neg_D ha
    obtain ⟨u, eu, hu⟩ := Sub_D hn one_D
    have eU : ((- A) % 340282366920938463463374607431768211456 - 1) % 340282366920938463463374607431768211456 = 340282366920938463463374607431768211455 - A := by omega
    rw [eU] at hu
    obtain ⟨t, et, ht⟩ := Div_pos K hu (by omega) hd
    obtain ⟨x, ex, hx⟩ := Neg_D ht
    obtain ⟨y, ey, hy⟩ := Sub_D hx one_D
    have q0 := Int.ediv_nonneg (show 0 ≤ 340282366920938463463374607431768211455 - A by omega) (show 0 ≤ d by omega)
    have q1 := Int.ediv_le_self d (show 0 ≤ 340282366920938463463374607431768211455 - A by omega)
    have r0 := Int.emod_nonneg (340282366920938463463374607431768211455 - A) (show d ≠ 0 by omega)
    have r1 := Int.emod_lt_of_pos (340282366920938463463374607431768211455 - A) (show 0 < d by omega)
    have r2 := Int.mul_ediv_add_emod (340282366920938463463374607431768211455 - A) d
    generalize (340282366920938463463374607431768211455 - A) / d = q at *
    generalize (340282366920938463463374607431768211455 - A) % d = r at *
    obtain ⟨k1, k2⟩ := (Int.ediv_emod_unique (a := sv A) (b := d) (r := d - 1 - r) (q := -1 - q) (by omega)).mpr ⟨by rw [Int.mul_sub, sA]; omega, by omega, by omega⟩
    have eY : ((- q) % 340282366920938463463374607431768211456 - 1) % 340282366920938463463374607431768211456 = (-1 - q) % 340282366920938463463374607431768211456 := by omega
    have eR : wrap64 (wrap64 (d - 1) - r) = d - 1 - r := by unfold wrap64; omega
    rw [eY] at hy
    rw [k1, k2]
    refine ⟨y, ?_, hy⟩
    rw [show 131 + K = (130 + K) + 1 by omega, calamusref01_Div.f, Sign_D ha, bs, if_pos (by unfold scmp; rw [sA, s0, if_neg (by omega), if_pos (by omega)]; decide), en, bs, eu, bs, et, bs, ex, bs, ey, bs, eR]
end Go.Proofs.Ytiicdgimffpckaa.W.Base

/- The law WideDivs over values alone. -/
namespace Go.Proofs.Ytiicdgimffpckaa.W.wideDivs
open Go.RowKit Go.Proofs.YtiicdgimffpckaaW.PrintWords Go.Proofs.YtiicdgimffpckaaW.PrintLast Go.Proofs.YtiicdgimffpckaaW.PrintMore Go.Proofs.Ytiicdgimffpckaa.W Go.Proofs.Ytiicdgimffpckaa.W.Base
set_option linter.unusedVariables false
set_option linter.unusedSimpArgs false
theorem pure : calamuslaw01_WideDivs.Pure := by
  intro x d hx hd
  obtain ⟨h, l⟩ := x
  have hh := i64_bd hx.1
  have hl := u64_bd hx.2
  have hd := i64_bd hd
  simp only at hh hl
  refine ⟨120 + 80, ?_⟩
  show calamuslaw01_WideDivs.f (120 + 80) h l d = some true
  unfold calamuslaw01_WideDivs.f
  rw [alive_yes 120, bs, if_pos rfl]
  unfold calamuslaw01_Two_own.f
  rw [bs]
  by_cases h1 : d < 1
  · have e : wide_Div.f (120 + 80) h l d = some (0, 0, 0, 2) := by unfold wide_Div.f; rw [if_pos h1]
    simp only
    rw [e, bs, if_pos h1]
    rfl
  · have hd1 : 1 ≤ d ∧ d < 9223372036854775808 := by omega
    have e : wide_Div.f (120 + 80) h l d = _ := Div_ok 179 hd1 hh hl
    obtain ⟨a, ea, ha⟩ := ref_D (h := h) hl
    obtain ⟨t, et, ht⟩ := Div_D 69 ha hd1
    have et' : calamusref01_Div.f (120 + 80) a.1 a.2.1 a.2.2.1 a.2.2.2.1 a.2.2.2.2.1 a.2.2.2.2.2.1 a.2.2.2.2.2.2.1 a.2.2.2.2.2.2.2 d = _ := et
    have sa : sv (wv h l) = h * 18446744073709551616 + l := by unfold sv wv; split <;> omega
    rw [sa] at et' ht
    have q0 : -170141183460469231731687303715884105728 ≤ (h * 18446744073709551616 + l) / d ∧ (h * 18446744073709551616 + l) / d < 170141183460469231731687303715884105728 := by
      have r0 := Int.emod_nonneg (h * 18446744073709551616 + l) (show d ≠ 0 by omega)
      have r1 := Int.emod_lt_of_pos (h * 18446744073709551616 + l) (show 0 < d by omega)
      have r2 := Int.mul_ediv_add_emod (h * 18446744073709551616 + l) d
      generalize (h * 18446744073709551616 + l) / d = q at *
      generalize (h * 18446744073709551616 + l) % d = r at *
      refine ⟨?_, ?_⟩
      · rcases Int.lt_or_le q (-170141183460469231731687303715884105728) with g | g
        · have g2 := Int.mul_le_mul_of_nonneg_left (show q ≤ -170141183460469231731687303715884105729 by omega) (show 0 ≤ d by omega)
          generalize d * q = p at *
          omega
        · exact g
      · rcases Int.lt_or_le q 170141183460469231731687303715884105728 with g | g
        · exact g
        · have g2 := Int.mul_le_mul_of_nonneg_left g (show 0 ≤ d by omega)
          generalize d * q = p at *
          omega
    simp only
    rw [e, bs, if_neg h1, ea, bs, et', bs]
    generalize (h * 18446744073709551616 + l) / d = q at *
    have v1 : q % 340282366920938463463374607431768211456 = wv (q / 18446744073709551616) (q % 18446744073709551616) := by unfold wv; omega
    rw [v1] at ht
    simp only
    rw [is_yes (md _) ht, bs]
    simp
end Go.Proofs.Ytiicdgimffpckaa.W.wideDivs
