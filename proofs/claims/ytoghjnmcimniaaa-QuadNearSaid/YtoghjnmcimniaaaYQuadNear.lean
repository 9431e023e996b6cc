/- The law QuadNear over values alone: so many steps are near enough, one fewer isn't. -/
import Derived.Test.YtoghjnmcimniaaaSQuadNear
import Derived.Test.YtoghjnmcimniaaaYQuadBendBase
namespace Go.Proofs.Ytoghjnmcimniaaa.Q.Base
open Go.RowKit Go.Proofs.YtoghjnmcimniaaaW.PrintWords Go.Proofs.YtoghjnmcimniaaaW.PrintLast Go.Proofs.YtoghjnmcimniaaaW.PrintMore Go.Proofs.Ytoghjnmcimniaaa.Q
set_option linter.unusedVariables false
theorem co_second (v : Bool) (i M a c e : Int) : co v (2 * i + 1) (2 * M) a c e - 2 * co v i M a c e - 2 * co v (i + 1) M a c e = if v = true then -bx a c e else 0 := by
  cases v with
  | true => simp only [co, w1, w2, w3, bx, if_true]; grind
  | false => simp only [co, w1, w2, w3, Bool.false_eq_true, if_false]; grind
theorem ab_neg (x : Int) : ab (-x) = ab x := by
  unfold ab
  repeat' split
  all_goals omega
theorem apart_eval (K : Nat) {a b c d e f : Int} {v : Bool} (hg : gs a b c d e f v = true) {n : Nat} {i : Int} (hn : n ≤ 9) (h0 : 0 ≤ i) (h1 : i < ((2 ^ n : Nat) : Int)) :
    calamuslaw13_apart.f (K + 4) a b c d e f v i n = some (bendS a b c d e f v) := by
  obtain ⟨ha, hb, he, hf, hcd⟩ := gs_bd hg
  have hp := two_pow (n := n) (by omega)
  have hM : ((2 ^ (n + 1) : Nat) : Int) = 2 * ((2 ^ n : Nat) : Int) := by rw [Nat.pow_succ, Int.natCast_mul]; omega
  have hn1 : n ≤ 10 := by omega
  have hn2 : n + 1 ≤ 10 := by omega
  have q1 : ((2 ^ n : Nat) : Int) ≤ 512 := Int.ofNat_le.2 (Nat.le_trans (Nat.pow_le_pow_right (by omega) hn) (by decide))
  have q0 : 1 ≤ ((2 ^ n : Nat) : Int) := Int.ofNat_le.2 hp.1
  clear hp
  have t1 := atS_ok hg hn1 h0 (by omega)
  have t2 := atS_ok (k := i + 1) hg hn1 (by omega) (by omega)
  have t3 := atS_ok (k := 2 * i + 1) hg hn2 (by omega) (by rw [hM]; omega)
  rw [hM] at t3
  generalize hq : ((2 ^ n : Nat) : Int) = q at *
  have b1 := co_bd (v := v) (M := 512) (c := c) h0 (by omega) q1 ha (fun hv => (hcd hv).1) he
  have b2 := co_bd (v := v) (M := 512) (c := d) h0 (by omega) q1 hb (fun hv => (hcd hv).2) hf
  have b3 := co_bd (v := v) (k := i + 1) (M := 512) (c := c) (by omega) (by omega) q1 ha (fun hv => (hcd hv).1) he
  have b4 := co_bd (v := v) (k := i + 1) (M := 512) (c := d) (by omega) (by omega) q1 hb (fun hv => (hcd hv).2) hf
  have b5 := co_bd (v := v) (k := 2 * i + 1) (m := 2 * q) (M := 1024) (c := c) (by omega) (by omega) (by omega) ha (fun hv => (hcd hv).1) he
  have b6 := co_bd (v := v) (k := 2 * i + 1) (m := 2 * q) (M := 1024) (c := d) (by omega) (by omega) (by omega) hb (fun hv => (hcd hv).2) hf
  have m1 := mul_bd0 (w := q) (a := q) (W := 512) (M := 512) (by omega) q1 (by omega) q1
  have m2 := mul_bd0 (w := 2 * q) (a := 2 * q) (W := 1024) (M := 1024) (by omega) (by omega) (by omega) (by omega)
  have s1 := co_second v i q a c e
  have s2 := co_second v i q b d f
  have wi : wrap64 (i + 1) = i + 1 := w_id (by omega) (by omega)
  have wj : wrap64 (wrap64 (2 * i) + 1) = 2 * i + 1 := by rw [w_id (x := 2 * i) (by omega) (by omega), w_id (by omega) (by omega)]
  have wn : wrap64 ((n : Int) + 1) = ((n + 1 : Nat) : Int) := by rw [w_id (by omega) (by omega)]; omega
  unfold calamuslaw13_apart.f
  rw [wi, wj, wn, quad_at K, quad_at K, quad_at K, t1, t2, t3]
  simp only [bs]
  have key : ∀ x y z t : Int, -(2 * q * (2 * q) * 4194304) ≤ x ∧ x ≤ 2 * q * (2 * q) * 4194304 → -(q * q * 4194304) ≤ y ∧ y ≤ q * q * 4194304 → -(q * q * 4194304) ≤ z ∧ z ≤ q * q * 4194304 → x - 2 * y - 2 * z = t →
      wrap64 (wrap64 (x - wrap64 (2 * y)) - wrap64 (2 * z)) = t ∧ -100000000000000 ≤ t ∧ t ≤ 100000000000000 := by
    intro x y z t hx hy hz ht
    rw [w_id (x := 2 * y) (by omega) (by omega), w_id (x := 2 * z) (by omega) (by omega), w_id (x := x - 2 * y) (by omega) (by omega), w_id (by omega) (by omega)]
    omega
  obtain ⟨k1, k2⟩ := key _ _ _ _ b5 b1 b3 s1
  obtain ⟨k3, k4⟩ := key _ _ _ _ b6 b2 b4 s2
  rw [k1, k3, abs_eval (by omega) (by omega), abs_eval (by omega) (by omega)]
  simp only [bs]
  unfold bendS
  cases v with
  | true => rw [if_pos rfl, if_pos rfl, if_pos rfl, if_pos hg, ab_neg, ab_neg]
  | false => simp [ab, mx]
end Go.Proofs.Ytoghjnmcimniaaa.Q.Base
namespace Go.Proofs.Ytoghjnmcimniaaa.Q.quadNear
open Go.RowKit Go.Proofs.YtoghjnmcimniaaaW.PrintWords Go.Proofs.YtoghjnmcimniaaaW.PrintLast Go.Proofs.YtoghjnmcimniaaaW.PrintMore Go.Proofs.Ytoghjnmcimniaaa.Q Go.Proofs.Ytoghjnmcimniaaa.Q.Base
set_option linter.unusedVariables false
theorem pure : calamuslaw13_QuadNear.Pure := by
  intro x a1 hx k1
  obtain ⟨A, B, C, D, E, F, hseg, sA, sB, sC, sD, sE, sF, hv⟩ := seg_eval _ _ _ _ _ _ x.f3 hx.1.1 hx.1.2 hx.2.1.1 hx.2.1.2 hx.2.2.1.1 hx.2.2.1.2
  obtain ⟨n, hn, hs, _, h5, h6⟩ := steps_both A B C D E F x.f3
  have hg : gs A B C D E F x.f3 = true := gs_sm sA sB sC sD sE sF
  have b1 := u16_bd k1
  have e2 : ∀ m : Nat, m ≤ 20 → IntKind.u64.wrap (m : Int) = m := by intro m hm; simp [IntKind.wrap, IntKind.signed, IntKind.bits]; omega
  have sh1 : ∀ m : Nat, m ≤ 9 → shl .i64 1 (m : Int) = ((2 ^ m : Nat) : Int) := by
    intro m hm
    have e3 : (2 : Int) ^ m = ((2 ^ m : Nat) : Int) := pow_cast 2 m
    have hp := two_pow (n := m) (by omega)
    rw [shl_eval (by omega) (by rw [e3]; omega) (by rw [e3]; omega), e3]
    omega
  have sh4 : ∀ m : Nat, m ≤ 9 → shl .i64 64 ((2 * m : Nat) : Int) = 64 * ((4 ^ m : Nat) : Int) := by
    intro m hm
    have hq := four_pow (n := m) (by omega)
    have e3 : (2 : Int) ^ (2 * m) = ((4 ^ m : Nat) : Int) := by rw [← four_two]; exact pow_cast 2 (2 * m)
    rw [shl_eval (by omega) (by rw [e3]; omega) (by rw [e3]; omega), e3]
  have hp := two_pow (n := n) (by omega)
  have q0 : 1 ≤ ((2 ^ n : Nat) : Int) := Int.ofNat_le.2 hp.1
  have w2 : wrap64 (2 * (n : Int)) = ((2 * n : Nat) : Int) := by rw [w_id (by omega) (by omega)]; omega
  have i0 : 0 ≤ a1 % ((2 ^ n : Nat) : Int) := Int.emod_nonneg _ (by omega)
  have i1 : a1 % ((2 ^ n : Nat) : Int) < ((2 ^ n : Nat) : Int) := Int.emod_lt_of_pos _ (by omega)
  have it : Int.tmod (wrap64 a1) ((2 ^ n : Nat) : Int) = a1 % ((2 ^ n : Nat) : Int) := by
    rw [w_id (by omega) (by omega), Int.tmod_eq_emod_of_nonneg b1.1]
  generalize a1 % ((2 ^ n : Nat) : Int) = i at *
  have ap1 := apart_eval 18 hg hn i0 i1
  refine ⟨22, ?_⟩
  unfold calamuslaw13_QuadNear.f
  rw [alive_yes 0]
  simp only [bs, if_true, hseg]
  rw [show (22 : Nat) = 9 + 13 from rfl, hs 9]
  simp only [bs]
  rw [e2 n (by omega), if_pos (by omega), sh1 n hn, if_neg (by omega), it, show (9 + 13 : Nat) = 18 + 4 from rfl, ap1]
  simp only [bs]
  rw [w2, e2 (2 * n) (by omega), if_pos (by omega), sh4 n hn]
  by_cases hz : (n : Int) = 0
  · rw [if_pos hz, decide_eq_true h5]
  · rw [if_neg hz, if_pos h5]
    obtain ⟨m, rfl⟩ : ∃ m, n = m + 1 := ⟨n - 1, by omega⟩
    have w1' : wrap64 (((m + 1 : Nat) : Int) - 1) = (m : Int) := by rw [w_id (by omega) (by omega)]; omega
    have w3' : wrap64 (((2 * (m + 1) : Nat) : Int) - 2) = ((2 * m : Nat) : Int) := by rw [w_id (by omega) (by omega)]; omega
    have hM : ((2 ^ (m + 1) : Nat) : Int) = 2 * ((2 ^ m : Nat) : Int) := by rw [Nat.pow_succ, Int.natCast_mul]; omega
    have hp' := two_pow (n := m + 1) (by omega)
    have q1 : ((2 ^ (m + 1) : Nat) : Int) ≤ 1024 := Int.ofNat_le.2 hp'.2
    have hi2 : Int.tdiv i 2 = i / 2 := Int.tdiv_eq_ediv_of_nonneg i0
    have wi : wrap64 (Int.tdiv i 2) = i / 2 := by rw [hi2, w_id (by omega) (by omega)]
    rw [hM] at i1
    have ap2 := apart_eval (i := i / 2) 18 hg (n := m) (by omega) (by omega) (by omega)
    rw [wi, w1', ap2]
    simp only [bs]
    rw [w3', e2 (2 * m) (by omega), if_pos (by omega), sh4 m (by omega), decide_eq_true (h6 m (by omega))]
end Go.Proofs.Ytoghjnmcimniaaa.Q.quadNear
