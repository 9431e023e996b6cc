/- The point of a piece at a share of its way: quad.At and the document's answer come to one and the same. -/
import Derived.Test.YtoghjnmcimniaaaYQuadBase
namespace Go.Proofs.Ytoghjnmcimniaaa.Q.Base
open Go.RowKit Go.Proofs.YtoghjnmcimniaaaW.PrintWords Go.Proofs.YtoghjnmcimniaaaW.PrintLast Go.Proofs.YtoghjnmcimniaaaW.PrintMore Go.Proofs.Ytoghjnmcimniaaa.Q
set_option linter.unusedVariables false

theorem mul_bd {w a W M : Int} (h0 : 0 ≤ w) (h1 : w ≤ W) (h2 : -M ≤ a) (h3 : a ≤ M) : -(W * M) ≤ w * a ∧ w * a ≤ W * M := by
  have hM : 0 ≤ M := by omega
  have a1 := Int.mul_le_mul_of_nonneg_left h3 h0
  have a2 := Int.mul_le_mul_of_nonneg_left h2 h0
  have a3 := Int.mul_le_mul_of_nonneg_right h1 hM
  rw [Int.mul_neg] at a2
  omega
theorem mul_bd0 {w a W M : Int} (h0 : 0 ≤ w) (h1 : w ≤ W) (h2 : 0 ≤ a) (h3 : a ≤ M) : 0 ≤ w * a ∧ w * a ≤ W * M := ⟨Int.mul_nonneg h0 h2, (mul_bd h0 h1 (by omega) h3).2⟩
/-- the weights of a piece's three points -/
def w1 (v : Bool) (k m : Int) : Int := if v then (m - k) * (m - k) else (m - k) * m
def w2 (v : Bool) (k m : Int) : Int := if v then 2 * k * (m - k) else 0
def w3 (v : Bool) (k m : Int) : Int := if v then k * k else k * m
theorem w_bd {v : Bool} {k m M : Int} (h0 : 0 ≤ k) (h1 : k ≤ m) (h2 : m ≤ M) : (0 ≤ w1 v k m ∧ w1 v k m ≤ M * M) ∧ (0 ≤ w2 v k m ∧ w2 v k m ≤ 2 * (M * M)) ∧ (0 ≤ w3 v k m ∧ w3 v k m ≤ M * M) := by
  have a := mul_bd0 (w := m - k) (a := m - k) (W := M) (M := M) (by omega) (by omega) (by omega) (by omega)
  have b := mul_bd0 (w := m - k) (a := m) (W := M) (M := M) (by omega) (by omega) (by omega) (by omega)
  have c := mul_bd0 (w := k) (a := m - k) (W := M) (M := M) (by omega) (by omega) (by omega) (by omega)
  have d := mul_bd0 (w := k) (a := k) (W := M) (M := M) (by omega) (by omega) (by omega) (by omega)
  have e := mul_bd0 (w := k) (a := m) (W := M) (M := M) (by omega) (by omega) (by omega) (by omega)
  have f : 2 * k * (m - k) = 2 * (k * (m - k)) := Int.mul_assoc _ _ _
  unfold w1 w2 w3
  cases v <;> simp only [Bool.false_eq_true, if_true, if_false] <;> omega
theorem w_sum (v : Bool) (k m : Int) : w1 v k m + w2 v k m + w3 v k m = m * m := by
  unfold w1 w2 w3
  cases v
  · simp only [Bool.false_eq_true, if_false]
    rw [Int.sub_mul]
    omega
  · simp only [if_true]
    rw [Int.sub_mul, Int.mul_sub, Int.mul_sub, Int.mul_assoc, Int.mul_sub, Int.mul_comm k m]
    omega
/-- one coordinate -/
def co (v : Bool) (k m a c e : Int) : Int := w1 v k m * a + w2 v k m * c + w3 v k m * e
def atS (a b c d e f : Int) (v : Bool) (k n : Int) : Int × Int × Int :=
  if n < 0 ∨ n > 10 ∨ k < 0 ∨ k > ((2 ^ n.toNat : Nat) : Int) then (0, 0, 2) else if gs a b c d e f v = true then (co v k ((2 ^ n.toNat : Nat) : Int) a c e, co v k ((2 ^ n.toNat : Nat) : Int) b d f, 0) else (0, 0, 6)
theorem gs_bd {a b c d e f : Int} {v : Bool} (h : gs a b c d e f v = true) : (-4194304 ≤ a ∧ a ≤ 4194304) ∧ (-4194304 ≤ b ∧ b ≤ 4194304) ∧ (-4194304 ≤ e ∧ e ≤ 4194304) ∧ (-4194304 ≤ f ∧ f ≤ 4194304) ∧ (v = true → (-4194304 ≤ c ∧ c ≤ 4194304) ∧ (-4194304 ≤ d ∧ d ≤ 4194304)) := by
  simp only [gs, Bool.and_eq_true, Bool.or_eq_true, Bool.not_eq_true', gd_iff] at h
  obtain ⟨⟨h1, h2⟩, h3⟩ := h
  refine ⟨by omega, by omega, by omega, by omega, fun hv => ?_⟩
  rcases h3 with h3 | h3
  · rw [hv] at h3; cases h3
  · omega
/-- The sum of three weighed coordinates does not wrap round. -/
theorem mix_co {x y z a c e : Int} (hx : 0 ≤ x ∧ x ≤ 1048576) (hy : 0 ≤ y ∧ y ≤ 2097152) (hz : 0 ≤ z ∧ z ≤ 1048576) (ha : -4194304 ≤ a ∧ a ≤ 4194304) (hc : -4194304 ≤ c ∧ c ≤ 4194304) (he : -4194304 ≤ e ∧ e ≤ 4194304) :
    wrap64 (wrap64 (wrap64 (x * a) + wrap64 (y * c)) + wrap64 (z * e)) = x * a + y * c + z * e := by
  have h1 := mul_bd hx.1 hx.2 ha.1 ha.2
  have h2 := mul_bd hy.1 hy.2 hc.1 hc.2
  have h3 := mul_bd hz.1 hz.2 he.1 he.2
  rw [w_id (x := x * a) (by omega) (by omega), w_id (x := y * c) (by omega) (by omega), w_id (x := z * e) (by omega) (by omega), w_id (x := x * a + y * c) (by omega) (by omega), w_id (by omega) (by omega)]
theorem mix_eval {x y z a b c d e f : Int} {v : Bool} (hx : 0 ≤ x ∧ x ≤ 1048576) (hy : 0 ≤ y ∧ y ≤ 2097152) (hz : 0 ≤ z ∧ z ≤ 1048576) (ha : -4194304 ≤ a ∧ a ≤ 4194304) (hc : -4194304 ≤ c ∧ c ≤ 4194304) (he : -4194304 ≤ e ∧ e ≤ 4194304)
    (hb : -4194304 ≤ b ∧ b ≤ 4194304) (hd : -4194304 ≤ d ∧ d ≤ 4194304) (hf : -4194304 ≤ f ∧ f ≤ 4194304) : quad_mix.f a b c d e f v x y z = some (x * a + y * c + z * e, x * b + y * d + z * f) := by
  unfold quad_mix.f
  rw [mix_co hx hy hz ha hc he, mix_co hx hy hz hb hd hf]
theorem quad_j0 (K : Nat) (a b c d e f : Int) (v : Bool) (k : Int) (n : Nat) (hn : n ≤ 10) (h0 : 0 ≤ k) (h1 : k ≤ ((2 ^ n : Nat) : Int)) :
    quad_At.j0 (K + 4) k n false a b c d e f v = some (if gs a b c d e f v = true then (co v k ((2 ^ n : Nat) : Int) a c e, co v k ((2 ^ n : Nat) : Int) b d f, 0) else (0, 0, 6)) := by
  rw [show K + 4 = (K + 3) + 1 from rfl, quad_At.j0, if_neg (by simp), quad_gs]
  simp only [bs]
  by_cases hg : gs a b c d e f v = true
  · rw [if_pos hg, if_pos hg]
    obtain ⟨ha, hb, he, hf, hcd⟩ := gs_bd hg
    have hp := two_pow hn
    have hs : shl .i64 1 (n : Int) = ((2 ^ n : Nat) : Int) := by
      have e2 : (2 : Int) ^ n = ((2 ^ n : Nat) : Int) := pow_cast 2 n
      rw [shl_eval (by omega) (by rw [e2]; omega) (by rw [e2]; omega), e2]
      omega
    rw [hs]
    generalize hm : ((2 ^ n : Nat) : Int) = m at *
    have hm1 : 1 ≤ m := by omega
    have hm2 : m ≤ 1024 := by omega
    obtain ⟨b1, b2, b3⟩ := w_bd (v := v) (M := 1024) h0 h1 hm2
    rw [w_id (x := m - k) (by omega) (by omega)]
    cases v with
    | true =>
      obtain ⟨hc, hd⟩ := hcd rfl
      simp only [w1, w2, w3, if_true] at b1 b2 b3
      have b4 := mul_bd0 (w := k) (a := m - k) (W := 1024) (M := 1024) h0 (by omega) (by omega) (by omega)
      rw [if_pos rfl, if_pos (by omega), w_id (x := 2 * k) (by omega) (by omega), w_id (x := (m - k) * (m - k)) (by omega) (by omega), w_id (x := 2 * k * (m - k)) (by omega) (by omega), w_id (x := k * k) (by omega) (by omega)]
      rw [mix_eval (by omega) (by omega) (by omega) ha hc he hb hd hf]
      rfl
    | false =>
      simp only [w1, w2, w3, Bool.false_eq_true, if_false] at b1 b2 b3
      have e2 : (2 : Int) ^ n = m := by rw [← hm]; exact pow_cast 2 n
      rw [if_neg (by simp), if_pos (by omega), shl_eval (by omega) (by rw [e2]; omega) (by rw [e2]; omega), shl_eval (by omega) (by rw [e2]; omega) (by rw [e2]; omega), e2]
      rw [mix_eval (by omega) (by omega) (by omega) ha (by omega) he hb (by omega) hf]
      simp [co, w1, w2, w3]
  · rw [if_neg hg, if_neg hg]
theorem ref_j0 (K : Nat) (a b c d e f : Int) (v : Bool) (k : Int) (n : Nat) (hn : n ≤ 10) (h0 : 0 ≤ k) (h1 : k ≤ ((2 ^ n : Nat) : Int)) :
    calamusref13_At.j0 (K + 22) k n false a b c d e f v = some (if gs a b c d e f v = true then (co v k ((2 ^ n : Nat) : Int) a c e, co v k ((2 ^ n : Nat) : Int) b d f, 0) else (0, 0, 6)) := by
  rw [show K + 22 = (K + 21) + 1 from rfl, calamusref13_At.j0, if_neg (by simp), ref_gs]
  simp only [bs]
  by_cases hg : gs a b c d e f v = true
  · rw [if_pos hg, if_pos hg]
    obtain ⟨ha, hb, he, hf, hcd⟩ := gs_bd hg
    have hp := two_pow hn
    have hs : calamusref13_Power.f (K + 21) 2 n = some ((2 ^ n : Nat) : Int) := pow_eval 2 n (by omega) (by omega) K
    simp only [hs, Option.bind_some, mix_point]
    generalize hm : ((2 ^ n : Nat) : Int) = m at *
    have hm1 : 1 ≤ m := by omega
    have hm2 : m ≤ 1024 := by omega
    obtain ⟨b1, b2, b3⟩ := w_bd (v := v) (M := 1024) h0 h1 hm2
    rw [w_id (x := m - k) (by omega) (by omega)]
    cases v with
    | true =>
      obtain ⟨hc, hd⟩ := hcd rfl
      simp only [w1, w2, w3, if_true] at b1 b2 b3
      have b4 := mul_bd0 (w := k) (a := m - k) (W := 1024) (M := 1024) h0 (by omega) (by omega) (by omega)
      rw [if_pos rfl, w_id (x := 2 * k) (by omega) (by omega), w_id (x := (m - k) * (m - k)) (by omega) (by omega), w_id (x := 2 * k * (m - k)) (by omega) (by omega), w_id (x := k * k) (by omega) (by omega)]
      rw [mix_eval (by omega) (by omega) (by omega) ha hc he hb hd hf]
      rfl
    | false =>
      simp only [w1, w2, w3, Bool.false_eq_true, if_false] at b1 b2 b3
      rw [if_neg (by simp), w_id (x := (m - k) * m) (by omega) (by omega), w_id (x := k * m) (by omega) (by omega)]
      rw [mix_eval (by omega) (by omega) (by omega) ha (by omega) he hb (by omega) hf]
      simp [co, w1, w2, w3]
  · rw [if_neg hg, if_neg hg]
theorem quad_at (K : Nat) (a b c d e f : Int) (v : Bool) (k n : Int) : quad_At.f (K + 4) a b c d e f v k n = some (atS a b c d e f v k n) := by
  have hbad : quad_At.j0 (K + 4) k n true a b c d e f v = some (0, 0, 2) := rfl
  unfold quad_At.f atS
  by_cases h1 : n < 0
  · rw [if_pos h1, if_pos (by omega), hbad]
  rw [if_neg h1]
  by_cases h2 : n > 10
  · rw [if_pos h2, if_pos (by omega), hbad]
  rw [if_neg h2]
  by_cases h3 : k < 0
  · rw [if_pos h3, if_pos (by omega), hbad]
  rw [if_neg h3, if_pos (by omega)]
  obtain ⟨m, rfl⟩ : ∃ m : Nat, n = m := ⟨n.toNat, by omega⟩
  have hp := two_pow (n := m) (by omega)
  have hs : shl .i64 1 (m : Int) = ((2 ^ m : Nat) : Int) := by
    have e2 : (2 : Int) ^ m = ((2 ^ m : Nat) : Int) := pow_cast 2 m
    rw [shl_eval (by omega) (by rw [e2]; omega) (by rw [e2]; omega), e2]
    omega
  rw [hs, Int.toNat_natCast]
  by_cases h4 : k > ((2 ^ m : Nat) : Int)
  · rw [decide_eq_true h4, if_pos (by omega), hbad]
  · rw [decide_eq_false h4, if_neg (by omega)]
    exact quad_j0 K a b c d e f v k m (by omega) (by omega) (by omega)
theorem ref_at (K : Nat) (a b c d e f : Int) (v : Bool) (k n : Int) : calamusref13_At.f (K + 22) a b c d e f v k n = some (atS a b c d e f v k n) := by
  have hbad : calamusref13_At.j0 (K + 22) k n true a b c d e f v = some (0, 0, 2) := rfl
  unfold calamusref13_At.f atS
  by_cases h1 : n < 0
  · rw [if_pos h1, if_pos (by omega), hbad]
  rw [if_neg h1]
  by_cases h2 : n > 10
  · rw [if_pos h2, if_pos (by omega), hbad]
  rw [if_neg h2]
  by_cases h3 : k < 0
  · rw [if_pos h3, if_pos (by omega), hbad]
  rw [if_neg h3]
  obtain ⟨m, rfl⟩ : ∃ m : Nat, n = m := ⟨n.toNat, by omega⟩
  rw [show K + 22 = (K + 1) + 21 from rfl, show (2 : Int) = ((2 : Nat) : Int) from rfl, pow_eval 2 m (by omega) (by omega), Int.toNat_natCast]
  simp only [bs]
  by_cases h4 : k > ((2 ^ m : Nat) : Int)
  · rw [decide_eq_true h4, if_pos (by omega)]
    exact hbad
  · rw [decide_eq_false h4, if_neg (by omega)]
    exact ref_j0 K a b c d e f v k m (by omega) (by omega) (by omega)
end Go.Proofs.Ytoghjnmcimniaaa.Q.Base
