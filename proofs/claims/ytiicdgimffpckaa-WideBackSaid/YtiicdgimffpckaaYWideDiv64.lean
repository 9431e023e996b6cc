/- math/bits.Div64 answers the quotient and what is left. -/
import Derived.Test.YtiicdgimffpckaaYWideDigit
import Derived.Lib.ItoaNum
import Derived.Laws.BitsAllLaws
namespace Go.Proofs.Ytiicdgimffpckaa.W.Base
open Go.RowKit Go.Proofs.YtiicdgimffpckaaW.PrintWords Go.Proofs.YtiicdgimffpckaaW.PrintLast Go.Proofs.YtiicdgimffpckaaW.PrintMore Go.Proofs.Ytiicdgimffpckaa.W
set_option linter.unusedVariables false
set_option linter.unusedSimpArgs false
theorem lead {y : Int} (hy : 0 < y ∧ y < 18446744073709551616) : ∃ s : Nat, bits_LeadingZeros64.f y = some (s : Int) ∧ s < 64 ∧ 9223372036854775808 ≤ y * 2 ^ s ∧ y * 2 ^ s < 18446744073709551616 := by
  obtain ⟨n, rfl⟩ := Int.eq_ofNat_of_zero_le (Int.le_of_lt hy.1)
  obtain ⟨h1, h2, h3⟩ := Lib.bitLenAux_bounds 64 n (by omega) (by omega)
  have h4 := Lib.bitLen_le n 64 (by omega) (by omega)
  have e : Lib.bitLenAux 64 n = Lib.bitLen n := rfl
  rw [e] at h1 h2 h3
  unfold bits_LeadingZeros64.f bits_Len64.f
  rw [if_pos ⟨by omega, by omega⟩, bs, Int.toNat_natCast]
  generalize Lib.bitLen n = b at *
  refine ⟨64 - b, ?_, by omega, ?_, ?_⟩
  · rw [w_id (by omega) (by omega)]
    congr 1
    omega
  · have h5 : (2 : Nat) ^ (b - 1) * 2 ^ (64 - b) = 9223372036854775808 := by rw [← Nat.pow_add, show b - 1 + (64 - b) = 63 by omega]
    have h6 := Nat.mul_le_mul_right (2 ^ (64 - b)) h2
    rw [h5] at h6
    have h7 : (((n * 2 ^ (64 - b) : Nat)) : Int) = (n : Int) * 2 ^ (64 - b) := by simp
    rw [← h7]
    exact Int.ofNat_le.mpr h6
  · have h5 : (2 : Nat) ^ b * 2 ^ (64 - b) = 18446744073709551616 := by rw [← Nat.pow_add, show b + (64 - b) = 64 by omega]
    have h6 := Nat.mul_lt_mul_of_pos_right h3 (Nat.two_pow_pos (64 - b))
    rw [h5] at h6
    have h7 : (((n * 2 ^ (64 - b) : Nat)) : Int) = (n : Int) * 2 ^ (64 - b) := by simp
    rw [← h7]
    exact Int.ofNat_lt.mpr h6
theorem shl_of {x : Int} {s : Nat} (hs : s < 64) : shl .u64 x (s : Int) = x * 2 ^ s % 18446744073709551616 := by
  unfold shl
  have h1 : IntKind.bits .u64 = 64 := rfl
  rw [u_w, h1, Int.toNat_natCast, Nat.min_eq_left (by omega)]
theorem shr_of {x : Int} {s : Nat} (hs : s ≤ 64) : shr .u64 x (s : Int) = x / 2 ^ s := by
  unfold shr
  have h1 : IntKind.bits .u64 = 64 := rfl
  rw [h1, Int.toNat_natCast, Nat.min_eq_left (by omega)]
theorem or_of {h b : Int} {s : Nat} (hh : 0 ≤ h) (hb : 0 ≤ b ∧ b < 2 ^ s) (hm : h * 2 ^ s + b < 18446744073709551616) : Go.bits .or .u64 (h * 2 ^ s) b = h * 2 ^ s + b := by
  obtain ⟨n, rfl⟩ := Int.eq_ofNat_of_zero_le hh
  obtain ⟨c, rfl⟩ := Int.eq_ofNat_of_zero_le hb.1
  have e1 : ((n : Int) * 2 ^ s) = ((2 ^ s * n : Nat) : Int) := by rw [Nat.mul_comm]; simp
  have hc : c < 2 ^ s := by
    have := hb.2
    have e2 : ((2 : Int) ^ s) = ((2 ^ s : Nat) : Int) := by simp
    rw [e2] at this
    exact Int.ofNat_lt.mp this
  rw [e1] at hm ⊢
  have e3 := Nat.two_pow_add_eq_or_of_lt hc n
  rw [u64_or_nat _ _ (by omega) (by omega), ← e3, Int.natCast_add]
theorem est {Y n1 n0 u v : Int} (h : Nm Y n1 n0) (hY : Y < 18446744073709551616) (hu : 0 ≤ u ∧ u < Y) (hv : 0 ≤ v ∧ v < 4294967296) :
    IntKind.u64.wrap (Int.tdiv u n1) = u / n1 ∧ IntKind.u64.wrap (u - IntKind.u64.wrap (u / n1 * n1)) = u - u / n1 * n1 := by
  have i := start h hu hv
  have h1 := i.s
  have h2 := i.rr
  have h3 := i.qq
  have ha := h.a
  have h4 : 0 ≤ u / n1 * n1 := Int.mul_nonneg h3.1 (by omega)
  rw [u_w, u_w, u_w, Int.tdiv_eq_ediv_of_nonneg hu.1]
  generalize u / n1 = q at *
  generalize q * n1 = p at *
  omega
theorem Div64_ok (K : Nat) {h l y : Int} (hy : 0 < y ∧ y < 18446744073709551616) (hh : 0 ≤ h ∧ h < y) (hl : 0 ≤ l ∧ l < 18446744073709551616) :
    bits_Div64.f (20 + K) h l y = some ((h * 18446744073709551616 + l) / y, (h * 18446744073709551616 + l) % y) := by
  unfold bits_Div64.f
  rw [if_neg (by omega), if_neg (by omega)]
  by_cases h0 : h = 0
  · subst h0
    have e1 := Int.ediv_nonneg hl.1 (Int.le_of_lt hy.1)
    have e2 := Int.ediv_le_self y hl.1
    rw [if_pos rfl, u_w, Int.tdiv_eq_ediv_of_nonneg hl.1, Int.tmod_eq_emod_of_nonneg hl.1, Int.zero_mul, Int.zero_add, Int.emod_eq_of_lt e1 (by omega)]
  · rw [if_neg h0]
    obtain ⟨s, es, hs, y1, y2⟩ := lead hy
    have w1 : IntKind.u64.wrap (s : Int) = (s : Int) := by rw [u_w]; omega
    have w2 : IntKind.u64.wrap (64 - (s : Int)) = ((64 - s : Nat) : Int) := by rw [u_w]; omega
    rw [es, bs, w1, w2, if_pos (by omega), if_pos (by omega)]
    simp only [shl_of hs, shr_of (show 64 - s ≤ 64 by omega)]
    have hT : (0 : Int) < 2 ^ s := Int.pow_pos (by omega)
    have hM : (18446744073709551616 : Int) = 2 ^ (64 - s) * 2 ^ s := by
      rw [← Int.pow_add, show 64 - s + s = 64 by omega]
      decide
    have hT2 : (0 : Int) < 2 ^ (64 - s) := Int.pow_pos (by omega)
    have hLM : l * 2 ^ s / 18446744073709551616 = l / 2 ^ (64 - s) := by rw [hM]; exact Int.mul_ediv_mul_of_pos_left _ _ hT
    have hhT : h * 2 ^ s + 2 ^ s ≤ y * 2 ^ s := by
      have := Int.mul_le_mul_of_nonneg_right (show h + 1 ≤ y by omega) (Int.le_of_lt hT)
      rw [Int.add_mul] at this
      omega
    have hh0 : 0 ≤ h * 2 ^ s := Int.mul_nonneg hh.1 (Int.le_of_lt hT)
    have hL0 : 0 ≤ l * 2 ^ s := Int.mul_nonneg hl.1 (Int.le_of_lt hT)
    have hL1 : l * 2 ^ s < 18446744073709551616 * 2 ^ s := Int.mul_lt_mul_of_pos_right hl.2 hT
    have hb : 0 ≤ l / 2 ^ (64 - s) ∧ l / 2 ^ (64 - s) < 2 ^ s := by
      rw [← hLM]
      refine ⟨by omega, Int.ediv_lt_of_lt_mul (by omega) (by rw [Int.mul_comm (2 ^ s)]; exact hL1)⟩
    have hy3 : y * 2 ^ s % 18446744073709551616 = y * 2 ^ s := by omega
    have hh3 : h * 2 ^ s % 18446744073709551616 = h * 2 ^ s := by omega
    rw [hy3, hh3, or_of hh.1 hb (by omega), ← hLM]
    have hV : (h * 2 ^ s) * 18446744073709551616 + l * 2 ^ s = (h * 18446744073709551616 + l) * 2 ^ s := by grind
    have hVY : (h * 18446744073709551616 + l) * 2 ^ s < (y * 2 ^ s) * 18446744073709551616 := by
      have h1 := Int.mul_lt_mul_of_pos_right (show h * 18446744073709551616 + l < y * 18446744073709551616 by omega) hT
      have h2 : y * 18446744073709551616 * 2 ^ s = (y * 2 ^ s) * 18446744073709551616 := by grind
      rw [h2] at h1
      exact h1
    have hV0 : 0 ≤ (h * 18446744073709551616 + l) * 2 ^ s := Int.mul_nonneg (by omega) (Int.le_of_lt hT)
    have hVl : 0 ≤ h * 18446744073709551616 + l ∧ h * 18446744073709551616 + l < y * 18446744073709551616 := by omega
    clear hLM hM hT2 hb hhT hL1 w1 w2 es hy3 hh3
    generalize hTe : (2 : Int) ^ s = T at *
    generalize hYe : y * T = Y at *
    generalize h * T = H at *
    generalize l * T = L at *
    generalize h * 18446744073709551616 + l = V at *
    have hN : Nm Y (Y / 4294967296) (Y % 4294967296) := ⟨by omega, by omega, by omega⟩
    rw [bits_low Y (by omega), bits_low (L % 18446744073709551616) (md _), if_neg (by omega)]
    have hW : (H + L / 18446744073709551616) * 18446744073709551616 + L % 18446744073709551616 = V * T := by omega
    have hu : 0 ≤ H + L / 18446744073709551616 ∧ H + L / 18446744073709551616 < Y := by omega
    generalize H + L / 18446744073709551616 = u at *
    have hml := md L
    generalize L % 18446744073709551616 = L0 at *
    have hv1 : 0 ≤ L0 / 4294967296 ∧ L0 / 4294967296 < 4294967296 := by omega
    have hv0 : 0 ≤ L0 % 4294967296 ∧ L0 % 4294967296 < 4294967296 := by omega
    obtain ⟨c1, c2⟩ := est hN y2 hu hv1
    rw [c1, c2]
    have st := start hN hu hv1
    obtain ⟨K', p, hK, eK, p0, p1, p2⟩ := loop0 (s : Int) (L0 % 4294967296) (16 + K) hN hu hv1 2 _ _ st (by have := st.rr; omega)
    rw [show 20 + K = 2 * 2 + (16 + K) by omega, eK]
    obtain ⟨J, rfl⟩ : ∃ J, K' = 2 * 2 + J + 1 := ⟨K' - 5, by omega⟩
    rw [bits_Div64.j2, if_neg (by omega)]
    rw [Int.add_mul, Int.one_mul] at p2
    have e21 : IntKind.u64.wrap (IntKind.u64.wrap (IntKind.u64.wrap (u * 4294967296) + L0 / 4294967296) - IntKind.u64.wrap (p * Y)) = u * 4294967296 + L0 / 4294967296 - p * Y := by
      rw [u_w, u_w, u_w, u_w]
      generalize p * Y = pY at *
      omega
    have hu2 : 0 ≤ u * 4294967296 + L0 / 4294967296 - p * Y ∧ u * 4294967296 + L0 / 4294967296 - p * Y < Y := by omega
    rw [e21]
    have hpB : (u * 4294967296 + L0 / 4294967296 - p * Y) * 4294967296 + L0 % 4294967296 = V * T - (p * 4294967296) * Y := by
      have : (p * 4294967296) * Y = (p * Y) * 4294967296 := by grind
      rw [this]
      generalize p * Y = pY at *
      omega
    generalize u * 4294967296 + L0 / 4294967296 - p * Y = u2 at *
    obtain ⟨d1, d2⟩ := est hN y2 hu2 hv0
    rw [d1, d2]
    have st2 := start hN hu2 hv0
    obtain ⟨q, eq, q0, q1, q2⟩ := loop1 (s : Int) p J (by omega) hN hu2 hv0 2 _ _ st2 (by have := st2.rr; omega)
    rw [eq, shr_of (by omega), hTe]
    have hr : (p * 4294967296 + q) * Y = (p * 4294967296) * Y + q * Y := by grind
    rw [Int.add_mul, Int.one_mul] at q2
    have hR : (V - (p * 4294967296 + q) * y) * T = u2 * 4294967296 + L0 % 4294967296 - q * Y := by
      have : (V - (p * 4294967296 + q) * y) * T = V * T - (p * 4294967296 + q) * Y := by rw [← hYe]; grind
      rw [this, hr, hpB]
      omega
    have hR0 : 0 ≤ V - (p * 4294967296 + q) * y := by
      rcases Int.lt_or_le (V - (p * 4294967296 + q) * y) 0 with g | g
      · have := Int.mul_lt_mul_of_pos_right g hT
        rw [hR, Int.zero_mul] at this
        omega
      · exact g
    have hR1 : V - (p * 4294967296 + q) * y < y := by
      refine Int.lt_of_mul_lt_mul_right (a := T) ?_ (Int.le_of_lt hT)
      rw [hR, hYe]
      omega
    obtain ⟨f1, f2⟩ := (Int.ediv_emod_unique (a := V) (b := y) (r := V - (p * 4294967296 + q) * y) (q := p * 4294967296 + q) hy.1).mpr ⟨by rw [Int.mul_comm y]; omega, hR0, hR1⟩
    have hQ : p * 4294967296 + q < 18446744073709551616 := by
      rw [← f1]
      exact Int.ediv_lt_of_lt_mul hy.1 (by rw [Int.mul_comm]; exact hVl.2)
    have g1 : IntKind.u64.wrap (IntKind.u64.wrap (p * 4294967296) + q) = p * 4294967296 + q := by rw [u_w, u_w]; omega
    have g2 : IntKind.u64.wrap (IntKind.u64.wrap (IntKind.u64.wrap (u2 * 4294967296) + L0 % 4294967296) - IntKind.u64.wrap (q * Y)) = u2 * 4294967296 + L0 % 4294967296 - q * Y := by
      rw [u_w, u_w, u_w, u_w]
      generalize q * Y = qY at *
      clear hr hR hR0 hR1 f1 f2 hQ g1 hpB hW hYe hVY hV0 hVl p1 p2 hV
      omega
    rw [g1, g2, ← hR, Int.mul_ediv_cancel _ (Int.ne_of_gt hT), f1, f2]
end Go.Proofs.Ytiicdgimffpckaa.W.Base
