/- The law QuadAt over values alone: the point of any piece at any share of its way, exactly and rounded, is the document's. -/
import Derived.Test.YtoghjnmcimniaaaYQuadAtBase
namespace Go.Proofs.Ytoghjnmcimniaaa.Q.Base
open Go.RowKit Go.Proofs.YtoghjnmcimniaaaW.PrintWords Go.Proofs.YtoghjnmcimniaaaW.PrintLast Go.Proofs.YtoghjnmcimniaaaW.PrintMore Go.Proofs.Ytoghjnmcimniaaa.Q
set_option linter.unusedVariables false

theorem co_bd {v : Bool} {k m M a c e : Int} (h0 : 0 ≤ k) (h1 : k ≤ m) (h2 : m ≤ M) (ha : -4194304 ≤ a ∧ a ≤ 4194304) (hc : v = true → -4194304 ≤ c ∧ c ≤ 4194304) (he : -4194304 ≤ e ∧ e ≤ 4194304) :
    -(m * m * 4194304) ≤ co v k m a c e ∧ co v k m a c e ≤ m * m * 4194304 := by
  obtain ⟨b1, b2, b3⟩ := w_bd (v := v) h0 h1 h2
  unfold co
  cases v with
  | true =>
    have h := weighed (L := -4194304) (U := 4194304) b1.1 b2.1 b3.1 (w_sum true k m) ha (hc rfl) he
    omega
  | false =>
    have h := weighed (C := 0) (L := -4194304) (U := 4194304) b1.1 b2.1 b3.1 (w_sum false k m) ha (by omega) he
    have e0 : w2 false k m = 0 := rfl
    rw [e0] at h ⊢
    omega
theorem atS_bd {a b c d e f : Int} {v : Bool} {k n : Int} (h : (atS a b c d e f v k n).2.2 = 0) :
    ∃ m : Nat, n = m ∧ m ≤ 10 ∧ 0 ≤ k ∧ k ≤ ((2 ^ m : Nat) : Int) ∧ gs a b c d e f v = true ∧ atS a b c d e f v k n = (co v k ((2 ^ m : Nat) : Int) a c e, co v k ((2 ^ m : Nat) : Int) b d f, 0) := by
  unfold atS at h ⊢
  by_cases h1 : n < 0 ∨ n > 10 ∨ k < 0 ∨ k > ((2 ^ n.toNat : Nat) : Int)
  · rw [if_pos h1] at h; simp at h
  · rw [if_neg h1] at h ⊢
    by_cases hg : gs a b c d e f v = true
    · rw [if_pos hg]
      exact ⟨n.toNat, by omega, by omega, by omega, by omega, hg, rfl⟩
    · rw [if_neg hg] at h; simp at h
/-- A number rounded, with 4^n of it to one. -/
def rndS (x : Int) (n : Nat) : Int := (2 * x + ((4 ^ n : Nat) : Int)) / (2 * ((4 ^ n : Nat) : Int))
theorem four_pow {n : Nat} (hn : n ≤ 10) : 1 ≤ 4 ^ n ∧ 4 ^ n ≤ 1048576 :=
  ⟨Nat.pow_pos (by omega), Nat.le_trans (Nat.pow_le_pow_right (by omega) hn) (by decide)⟩
theorem four_two (n : Nat) : 2 ^ (2 * n) = 4 ^ n := by rw [Nat.pow_mul]
theorem sq_four (n : Nat) : ((2 ^ n : Nat) : Int) * ((2 ^ n : Nat) : Int) = ((4 ^ n : Nat) : Int) := by
  rw [← Int.natCast_mul, ← Nat.pow_add, ← Nat.two_mul, four_two]
theorem half_rnd {x : Int} {n : Nat} (hn : n ≤ 10) : (x + ((4 ^ n : Nat) : Int) / 2) / ((4 ^ n : Nat) : Int) = rndS x n := by
  unfold rndS
  cases n with
  | zero => simp; omega
  | succ j =>
    have e : ((4 ^ (j + 1) : Nat) : Int) = 4 * ((4 ^ j : Nat) : Int) := by rw [Nat.pow_succ, Int.natCast_mul]; omega
    have hp : 0 < ((4 ^ j : Nat) : Int) := by exact_mod_cast Nat.pow_pos (by omega)
    rw [e]
    generalize ((4 ^ j : Nat) : Int) = q at *
    rw [show (4 * q) / 2 = 2 * q by omega, show 2 * x + 4 * q = 2 * (x + 2 * q) by omega, Int.mul_ediv_mul_of_pos _ _ (by omega)]
theorem down_eval {x d : Int} (hd : 0 < d) (h1 : -4611686018427387904 ≤ x) (h2 : x ≤ 4611686018427387904) : calamusref12_Down.f x d = some (x / d) := by
  unfold calamusref12_Down.f
  rw [if_neg (by omega)]
  have hm : x = d * Int.tdiv x d + Int.tmod x d := (Int.mul_tdiv_add_tmod x d).symm
  have habs : (Int.tdiv x d).natAbs ≤ x.natAbs := by rw [Int.natAbs_tdiv]; exact Nat.div_le_self _ _
  by_cases h : Int.tmod x d < 0
  · rw [if_pos h, w_id (x := Int.tdiv x d) (by omega) (by omega), w_id (by omega) (by omega)]
    have hlt : -d < Int.tmod x d := by
      have := Int.tmod_lt_of_pos (-x) hd
      rw [Int.neg_tmod] at this
      omega
    congr 1
    refine ((Int.ediv_emod_unique (r := Int.tmod x d + d) hd).2 ?_).1.symm
    exact ⟨by rw [Int.mul_sub]; omega, by omega, by omega⟩
  · rw [if_neg h, w_id (by omega) (by omega)]
    have hlt := Int.tmod_lt_of_pos x hd
    congr 1
    refine ((Int.ediv_emod_unique (r := Int.tmod x d) hd).2 ?_).1.symm
    exact ⟨by omega, by omega, by omega⟩
def roundS (a b c d e f : Int) (v : Bool) (k n : Int) : Int × Int × Int :=
  if (atS a b c d e f v k n).2.2 = 0 then (rndS (atS a b c d e f v k n).1 n.toNat, rndS (atS a b c d e f v k n).2.1 n.toNat, 0) else (0, 0, (atS a b c d e f v k n).2.2)
theorem quad_round (K : Nat) (a b c d e f : Int) (v : Bool) (k n : Int) : quad_Round.f (K + 4) a b c d e f v k n = some (roundS a b c d e f v k n) := by
  unfold quad_Round.f roundS
  rw [quad_at]
  simp only [bs]
  by_cases h : (atS a b c d e f v k n).2.2 = 0
  · rw [if_pos h, if_pos h]
    obtain ⟨m, rfl, hm, h0, h1, hg, he⟩ := atS_bd h
    obtain ⟨ha, hb, he', hf, hcd⟩ := gs_bd hg
    rw [he]
    have hp := two_pow hm
    have hq := four_pow hm
    have b1 := co_bd (v := v) (M := 1024) (c := c) h0 h1 (by omega) ha (fun hv => (hcd hv).1) he'
    have b2 := co_bd (v := v) (M := 1024) (c := d) h0 h1 (by omega) hb (fun hv => (hcd hv).2) hf
    rw [sq_four] at b1 b2
    simp only
    rw [w_id (x := 2 * (m : Int)) (by omega) (by omega), if_pos (by omega)]
    have e2 : 2 * (m : Int) = ((2 * m : Nat) : Int) := by omega
    have e3 : (2 : Int) ^ (2 * m) = ((4 ^ m : Nat) : Int) := by rw [← four_two]; exact pow_cast 2 (2 * m)
    rw [e2, shl_eval (by omega) (by rw [e3]; omega) (by rw [e3]; omega), shr_eval (by omega), shr_eval (by omega), e3]
    rw [Int.one_mul, w_id (by omega) (by omega), w_id (by omega) (by omega), half_rnd hm, half_rnd hm, Int.toNat_natCast]
  · rw [if_neg h, if_neg h]
theorem ref_round (K : Nat) (a b c d e f : Int) (v : Bool) (k n : Int) : calamusref13_Round.f (K + 22) a b c d e f v k n = some (roundS a b c d e f v k n) := by
  unfold calamusref13_Round.f roundS
  rw [ref_at]
  simp only [bs]
  by_cases h : (atS a b c d e f v k n).2.2 = 0
  · rw [if_pos h, if_pos h]
    obtain ⟨m, rfl, hm, h0, h1, hg, he⟩ := atS_bd h
    obtain ⟨ha, hb, he', hf, hcd⟩ := gs_bd hg
    rw [he]
    have hp := two_pow hm
    have hq := four_pow hm
    have b1 := co_bd (v := v) (M := 1024) (c := c) h0 h1 (by omega) ha (fun hv => (hcd hv).1) he'
    have b2 := co_bd (v := v) (M := 1024) (c := d) h0 h1 (by omega) hb (fun hv => (hcd hv).2) hf
    rw [sq_four] at b1 b2
    have hs := pow_eval 4 m (by omega) (by omega) (K + 1)
    have hs' : calamusref13_Power.f (K + 22) 4 m = some ((4 ^ m : Nat) : Int) := hs
    rw [hs', Option.bind_some, Option.bind_some]
    rw [w_id (x := 2 * ((4 ^ m : Nat) : Int)) (by omega) (by omega)]
    have c1 : wrap64 (wrap64 (2 * co v k ((2 ^ m : Nat) : Int) a c e) + ((4 ^ m : Nat) : Int)) = 2 * co v k ((2 ^ m : Nat) : Int) a c e + ((4 ^ m : Nat) : Int) := by
      rw [w_id (x := 2 * _) (by omega) (by omega), w_id (by omega) (by omega)]
    have c2 : wrap64 (wrap64 (2 * co v k ((2 ^ m : Nat) : Int) b d f) + ((4 ^ m : Nat) : Int)) = 2 * co v k ((2 ^ m : Nat) : Int) b d f + ((4 ^ m : Nat) : Int) := by
      rw [w_id (x := 2 * _) (by omega) (by omega), w_id (by omega) (by omega)]
    rw [c1, down_eval (by omega) (by omega) (by omega), Option.bind_some, Option.bind_some, c2, down_eval (by omega) (by omega) (by omega), Option.bind_some, Int.toNat_natCast]
    unfold rndS
    rfl
  · rw [if_neg h, if_neg h]
end Go.Proofs.Ytoghjnmcimniaaa.Q.Base
