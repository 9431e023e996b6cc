/- The document's numbers, bit by bit: with and Root. -/
import Derived.Test.YtiicdgimffpckaaYWideRefMul
import Derived.Test.YtiicdgimffpckaaYWideRootBase
namespace Go.Proofs.Ytiicdgimffpckaa.W.Base
open Go.RowKit Go.Proofs.YtiicdgimffpckaaW.PrintWords Go.Proofs.YtiicdgimffpckaaW.PrintLast Go.Proofs.YtiicdgimffpckaaW.PrintMore Go.Proofs.Ytiicdgimffpckaa.W
set_option linter.unusedVariables false
set_option linter.unusedSimpArgs false
theorem fits {p p' m rest d : Int} (hp : 0 < p) (h : 65536 = 2 * p * p') (hd : 2 * p * m = d + 65536 * rest) (h0 : 0 ≤ d ∧ d < 65536) : d + p < 65536 := by
  have e : d = 2 * p * (m - p' * rest) := by rw [Int.mul_sub, hd, ← Int.mul_assoc, ← h]; omega
  generalize m - p' * rest = u at *
  have h1 : 2 * p * u < 2 * p * p' := by omega
  have h2 : u < p' := Int.lt_of_mul_lt_mul_left h1 (by omega)
  have h3 : 2 * p * (u + 1) ≤ 2 * p * p' := Int.mul_le_mul_of_nonneg_left (by omega) (by omega)
  rw [Int.mul_add] at h3
  omega
theorem with_D {R : Int} {r : T8} (hr : D R r) (i : Nat) (hi : i < 128) (m : Int) (hm : R = 2 ^ (i + 1) * m) :
    ∃ s, calamusref01_with.f r.1 r.2.1 r.2.2.1 r.2.2.2.1 r.2.2.2.2.1 r.2.2.2.2.2.1 r.2.2.2.2.2.2.1 r.2.2.2.2.2.2.2 (i : Int) = some s ∧ D (R + 2 ^ i) s := by
  obtain ⟨a0, a1, a2, a3, a4, a5, a6, a7⟩ := r
  obtain ⟨p0, p1, p2, p3, p4, p5, p6, p7, v⟩ := hr
  simp only at p0 p1 p2 p3 p4 p5 p6 p7 v
  unfold calamusref01_with.f
  rw [if_pos ⟨by omega, by omega⟩]
  unfold calamusref01_with.up
  have ei : ((i : Int) % 16).toNat = i % 16 := by omega
  have hpow : (2 : Int) ^ i = 65536 ^ (i / 16) * 2 ^ (i % 16) := by
    have : i = 16 * (i / 16) + i % 16 := by omega
    rw [show (65536 : Int) = 2 ^ 16 by decide, ← Int.pow_mul, ← Int.pow_add, ← this]
  have hpos : (0 : Int) < 2 ^ (i % 16) := Int.pow_pos (by omega)
  have hc : (65536 : Int) = 2 * 2 ^ (i % 16) * 2 ^ (15 - i % 16) := by
    have h1 : (2 : Int) ^ (i % 16) * 2 ^ (15 - i % 16) = 32768 := by
      rw [← Int.pow_add, show i % 16 + (15 - i % 16) = 15 by omega]
      decide
    rw [Int.mul_assoc, h1]
    decide
  rw [Int.pow_succ, hpow] at hm
  rw [ei, hpow]
  generalize (2 : Int) ^ (i % 16) = p at *
  generalize (2 : Int) ^ (15 - i % 16) = p' at *
  have hq : i / 16 = 0 ∨ i / 16 = 1 ∨ i / 16 = 2 ∨ i / 16 = 3 ∨ i / 16 = 4 ∨ i / 16 = 5 ∨ i / 16 = 6 ∨ i / 16 = 7 := by omega
  have hm2 : R = 65536 ^ (i / 16) * (2 * p * m) := by rw [hm]; grind
  clear hm hpow ei
  have hpl : p ≤ 32768 := by
    have h1 : 0 < p' := by
      rcases Int.lt_or_le 0 p' with h | h
      · exact h
      · have := Int.mul_nonneg (show 0 ≤ 2 * p by omega) (show 0 ≤ - p' by omega)
        rw [Int.mul_neg] at this
        omega
    have h2 := Int.mul_le_mul_of_nonneg_left (show (1 : Int) ≤ p' by omega) (show 0 ≤ 2 * p by omega)
    omega
  rcases hq with h | h | h | h | h | h | h | h
  · have hqi : (i : Int) / 16 = 0 := by omega
    rw [hqi]
    rw [h, show (65536 : Int) ^ 0 = 1 by decide] at hm2 ⊢
    simp only [Int.reduceEq, if_true, if_false]
    have ht : 2 * p * m = a0 + 65536 * (a1 + 65536 * a2 + 4294967296 * a3 + 281474976710656 * a4 + 18446744073709551616 * a5 + 1208925819614629174706176 * a6 + 79228162514264337593543950336 * a7) := by
      clear hc hpl
      generalize 2 * p * m = t at *
      omega
    have hf := fits hpos hc ht p0
    clear ht hm2 hc
    exact ⟨_, rfl, ⟨⟨by simp only; omega, by simp only; omega⟩, p1, p2, p3, p4, p5, p6, p7, by simp only; omega⟩⟩
  · have hqi : (i : Int) / 16 = 1 := by omega
    rw [hqi]
    rw [h, show (65536 : Int) ^ 1 = 65536 by decide] at hm2 ⊢
    simp only [Int.reduceEq, if_true, if_false]
    have ht : 2 * p * m = a1 + 65536 * (a2 + 65536 * a3 + 4294967296 * a4 + 281474976710656 * a5 + 18446744073709551616 * a6 + 1208925819614629174706176 * a7) := by
      clear hc hpl
      generalize 2 * p * m = t at *
      omega
    have hf := fits hpos hc ht p1
    clear ht hm2 hc
    exact ⟨_, rfl, ⟨p0, ⟨by simp only; omega, by simp only; omega⟩, p2, p3, p4, p5, p6, p7, by simp only; omega⟩⟩
  · have hqi : (i : Int) / 16 = 2 := by omega
    rw [hqi]
    rw [h, show (65536 : Int) ^ 2 = 4294967296 by decide] at hm2 ⊢
    simp only [Int.reduceEq, if_true, if_false]
    have ht : 2 * p * m = a2 + 65536 * (a3 + 65536 * a4 + 4294967296 * a5 + 281474976710656 * a6 + 18446744073709551616 * a7) := by
      clear hc hpl
      generalize 2 * p * m = t at *
      omega
    have hf := fits hpos hc ht p2
    clear ht hm2 hc
    exact ⟨_, rfl, ⟨p0, p1, ⟨by simp only; omega, by simp only; omega⟩, p3, p4, p5, p6, p7, by simp only; omega⟩⟩
  · have hqi : (i : Int) / 16 = 3 := by omega
    rw [hqi]
    rw [h, show (65536 : Int) ^ 3 = 281474976710656 by decide] at hm2 ⊢
    simp only [Int.reduceEq, if_true, if_false]
    have ht : 2 * p * m = a3 + 65536 * (a4 + 65536 * a5 + 4294967296 * a6 + 281474976710656 * a7) := by
      clear hc hpl
      generalize 2 * p * m = t at *
      omega
    have hf := fits hpos hc ht p3
    clear ht hm2 hc
    exact ⟨_, rfl, ⟨p0, p1, p2, ⟨by simp only; omega, by simp only; omega⟩, p4, p5, p6, p7, by simp only; omega⟩⟩
  · have hqi : (i : Int) / 16 = 4 := by omega
    rw [hqi]
    rw [h, show (65536 : Int) ^ 4 = 18446744073709551616 by decide] at hm2 ⊢
    simp only [Int.reduceEq, if_true, if_false]
    have ht : 2 * p * m = a4 + 65536 * (a5 + 65536 * a6 + 4294967296 * a7) := by
      clear hc hpl
      generalize 2 * p * m = t at *
      omega
    have hf := fits hpos hc ht p4
    clear ht hm2 hc
    exact ⟨_, rfl, ⟨p0, p1, p2, p3, ⟨by simp only; omega, by simp only; omega⟩, p5, p6, p7, by simp only; omega⟩⟩
  · have hqi : (i : Int) / 16 = 5 := by omega
    rw [hqi]
    rw [h, show (65536 : Int) ^ 5 = 1208925819614629174706176 by decide] at hm2 ⊢
    simp only [Int.reduceEq, if_true, if_false]
    have ht : 2 * p * m = a5 + 65536 * (a6 + 65536 * a7) := by
      clear hc hpl
      generalize 2 * p * m = t at *
      omega
    have hf := fits hpos hc ht p5
    clear ht hm2 hc
    exact ⟨_, rfl, ⟨p0, p1, p2, p3, p4, ⟨by simp only; omega, by simp only; omega⟩, p6, p7, by simp only; omega⟩⟩
  · have hqi : (i : Int) / 16 = 6 := by omega
    rw [hqi]
    rw [h, show (65536 : Int) ^ 6 = 79228162514264337593543950336 by decide] at hm2 ⊢
    simp only [Int.reduceEq, if_true, if_false]
    have ht : 2 * p * m = a6 + 65536 * (a7) := by
      clear hc hpl
      generalize 2 * p * m = t at *
      omega
    have hf := fits hpos hc ht p6
    clear ht hm2 hc
    exact ⟨_, rfl, ⟨p0, p1, p2, p3, p4, p5, ⟨by simp only; omega, by simp only; omega⟩, p7, by simp only; omega⟩⟩
  · have hqi : (i : Int) / 16 = 7 := by omega
    rw [hqi]
    rw [h, show (65536 : Int) ^ 7 = 5192296858534827628530496329220096 by decide] at hm2 ⊢
    simp only [Int.reduceEq, if_true, if_false]
    have ht : 2 * p * m = a7 + 65536 * (0) := by
      clear hc hpl
      generalize 2 * p * m = t at *
      omega
    have hf := fits hpos hc ht p7
    clear ht hm2 hc
    exact ⟨_, rfl, ⟨p0, p1, p2, p3, p4, p5, p6, ⟨by simp only; omega, by simp only; omega⟩, by simp only; omega⟩⟩
theorem root_ref (h l : Int) {a : T8} (hh : 0 ≤ h ∧ h < 9223372036854775808) (hl : 0 ≤ l ∧ l < 18446744073709551616) (ha : D (wv h l) a) (K : Nat) :
    ∀ (n : Nat) (m : Int) (r : T8), n ≤ 64 → 0 ≤ m → 2 ^ n * m + 2 ^ n ≤ 18446744073709551616 → D (2 ^ n * m) r → (2 ^ n * m) * (2 ^ n * m) ≤ wv h l → wv h l < (2 ^ n * m + 2 ^ n) * (2 ^ n * m + 2 ^ n) →
    ∃ (s : Int) (t : T8), calamusref01_Root.l0 (n + 1 + K) ((n : Int) - 1) a.1 a.2.1 a.2.2.1 a.2.2.2.1 a.2.2.2.2.1 a.2.2.2.2.2.1 a.2.2.2.2.2.2.1 a.2.2.2.2.2.2.2 r.1 r.2.1 r.2.2.1 r.2.2.2.1 r.2.2.2.2.1 r.2.2.2.2.2.1 r.2.2.2.2.2.2.1 r.2.2.2.2.2.2.2 = some t ∧ D s t ∧ s * s ≤ wv h l ∧ wv h l < (s + 1) * (s + 1)
  | 0, m, r, _, h0, h1, hr, h2, h3 => by
    refine ⟨2 ^ 0 * m, r, ?_, hr, h2, by simpa using h3⟩
    rw [show 0 + 1 + K = K + 1 by omega, calamusref01_Root.l0, if_neg (by omega)]
  | n + 1, m, r, hn, h0, h1, hr, h2, h3 => by
    rw [show n + 1 + 1 + K = (n + 1 + K) + 1 by omega, calamusref01_Root.l0, if_pos (by omega)]
    have e0 : ((n + 1 : Nat) : Int) - 1 = (n : Int) := by omega
    have e1 : wrap64 ((n : Int) - 1) = (n : Int) - 1 := w_id (by omega) (by omega)
    rw [e0, e1]
    obtain ⟨s, es, hs⟩ := with_D hr n (by omega) m rfl
    have e3 : (2 : Int) ^ (n + 1) = 2 ^ n + 2 ^ n := by rw [Int.pow_succ]; omega
    have e4 : (2 : Int) ^ (n + 1) * m = 2 ^ n * (2 * m) := by rw [Int.pow_succ]; grind
    have e5 : (2 : Int) ^ n * (2 * m + 1) = 2 ^ n * (2 * m) + 2 ^ n := by grind
    have hp : (0 : Int) < 2 ^ n := Int.pow_pos (by omega)
    have hs' := hs
    rw [e4, ← e5] at hs
    obtain ⟨q, eq, hq⟩ := Mul_D hs hs
    rw [es, bs, eq, bs, Sign_D hq, bs]
    have hpm : 0 ≤ (2 : Int) ^ n * (2 * m) := Int.mul_nonneg (by omega) (by omega)
    have ht1 : (2 : Int) ^ n * (2 * m) + (2 ^ n + 2 ^ n) ≤ 18446744073709551616 := by rw [← e3, ← e4]; exact h1
    have ht2 : (2 : Int) ^ n * (2 * m + 1) ≤ 18446744073709551615 := by rw [e5]; omega
    have ht3 : 0 ≤ (2 : Int) ^ n * (2 * m + 1) := by rw [e5]; omega
    have hsq := Int.mul_le_mul ht2 ht2 ht3 (by omega)
    have hsq0 := Int.mul_nonneg ht3 ht3
    have hmod : ((2 : Int) ^ n * (2 * m + 1)) * (2 ^ n * (2 * m + 1)) % 340282366920938463463374607431768211456 = (2 ^ n * (2 * m + 1)) * (2 ^ n * (2 * m + 1)) := Int.emod_eq_of_lt hsq0 (by omega)
    rw [hmod] at hq ⊢
    have hV : 0 ≤ wv h l ∧ wv h l < 170141183460469231731687303715884105728 := by unfold wv; omega
    have up : ((2 : Int) ^ n * (2 * m + 1)) * (2 ^ n * (2 * m + 1)) ≤ wv h l → ∃ (z : Int) (t : T8), calamusref01_Root.l0 (n + 1 + K) ((n : Int) - 1) a.1 a.2.1 a.2.2.1 a.2.2.2.1 a.2.2.2.2.1 a.2.2.2.2.2.1 a.2.2.2.2.2.2.1 a.2.2.2.2.2.2.2 s.1 s.2.1 s.2.2.1 s.2.2.2.1 s.2.2.2.2.1 s.2.2.2.2.2.1 s.2.2.2.2.2.2.1 s.2.2.2.2.2.2.2 = some t ∧ D z t ∧ z * z ≤ wv h l ∧ wv h l < (z + 1) * (z + 1) := by
      intro hle
      refine root_ref h l hh hl ha K n (2 * m + 1) s (by omega) (by omega) (by rw [e5]; omega) hs hle ?_
      have e7 : (2 : Int) ^ n * (2 * m + 1) + 2 ^ n = 2 ^ (n + 1) * m + 2 ^ (n + 1) := by rw [e5, e4, e3]; omega
      rw [e7]
      exact h3
    have down : wv h l < ((2 : Int) ^ n * (2 * m + 1)) * (2 ^ n * (2 * m + 1)) → ∃ (z : Int) (t : T8), calamusref01_Root.l0 (n + 1 + K) ((n : Int) - 1) a.1 a.2.1 a.2.2.1 a.2.2.2.1 a.2.2.2.2.1 a.2.2.2.2.2.1 a.2.2.2.2.2.2.1 a.2.2.2.2.2.2.2 r.1 r.2.1 r.2.2.1 r.2.2.2.1 r.2.2.2.2.1 r.2.2.2.2.2.1 r.2.2.2.2.2.2.1 r.2.2.2.2.2.2.2 = some t ∧ D z t ∧ z * z ≤ wv h l ∧ wv h l < (z + 1) * (z + 1) := by
      intro hlt
      rw [e4] at h2 hr
      refine root_ref h l hh hl ha K n (2 * m) r (by omega) (by omega) (by omega) hr h2 ?_
      rw [← e5]
      exact hlt
    generalize ((2 : Int) ^ n * (2 * m + 1)) * (2 ^ n * (2 * m + 1)) = T at *
    have s0 : sv 0 = 0 := by decide
    have sV : sv (wv h l) = wv h l := by unfold sv; rw [if_neg (by omega)]
    clear h1 h2 h3 e3 e4 e5 hp hs hs' eq es ht1 ht2 ht3 hpm hmod hr e0 e1
    generalize wv h l = V at *
    by_cases c0 : T < 170141183460469231731687303715884105728
    · have sT : sv T = T := by unfold sv; rw [if_neg (by omega)]
      rw [if_pos (by unfold scmp; rw [sT, s0]; split <;> (try split) <;> omega), Cmp_D hq ha, bs]
      by_cases c1 : T ≤ V
      · rw [if_pos (by unfold scmp; rw [sT, sV]; split <;> (try split) <;> omega)]
        exact up c1
      · rw [if_neg (by unfold scmp; rw [sT, sV, if_pos (by omega)]; decide)]
        exact down (by omega)
    · have sT : sv T = T - 340282366920938463463374607431768211456 := by unfold sv; rw [if_pos (by omega)]
      rw [if_neg (by unfold scmp; rw [sT, s0, if_neg (by omega), if_pos (by omega)]; decide)]
      exact down (by omega)
end Go.Proofs.Ytiicdgimffpckaa.W.Base
