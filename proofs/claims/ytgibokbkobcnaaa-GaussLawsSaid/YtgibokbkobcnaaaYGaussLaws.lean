/- The law GaussLaws over values alone: Cross turns its sign, is 0 of a point and itself; both squared make the product of the lengths squared. -/
import Derived.Test.YtgibokbkobcnaaaSGaussLaws
import Derived.Test.YtgibokbkobcnaaaYGaussBase
namespace Go.Proofs.Ytgibokbkobcnaaa.G.gaussLaws
open Go.RowKit Go.Proofs.YtgibokbkobcnaaaW.PrintWords Go.Proofs.YtgibokbkobcnaaaW.PrintLast Go.Proofs.YtgibokbkobcnaaaW.PrintMore Go.Proofs.Ytgibokbkobcnaaa.G Go.Proofs.Ytgibokbkobcnaaa.G.Base
set_option linter.unusedSimpArgs false
theorem i16_bd {x : Int} (h : (Lit.int .i16 x).wf = true) : -32768 ≤ x ∧ x ≤ 32767 := by
  simp [Lit.wf, IntKind.min, IntKind.max, IntKind.bits, IntKind.signed] at h
  omega
theorem mul16 {x y : Int} (hx : -32768 ≤ x ∧ x ≤ 32767) (hy : -32768 ≤ y ∧ y ≤ 32767) : -1073741824 ≤ x * y ∧ x * y ≤ 1073741824 := by
  have h1 : x.natAbs ≤ 32768 := by omega
  have h2 : y.natAbs ≤ 32768 := by omega
  have := Nat.mul_le_mul h1 h2
  have e : (x * y).natAbs = x.natAbs * y.natAbs := Int.natAbs_mul x y
  omega
theorem sq_nn (x : Int) : 0 ≤ x * x := by
  rcases Int.le_total 0 x with h | h
  · exact Int.mul_nonneg h h
  · have := Int.mul_nonneg (show 0 ≤ -x by omega) (show 0 ≤ -x by omega)
    rwa [Int.neg_mul_neg] at this
theorem mul31 {x : Int} (h : -2147483648 ≤ x ∧ x ≤ 2147483648) : 0 ≤ x * x ∧ x * x ≤ 4611686018427387904 := by
  have h1 : x.natAbs ≤ 2147483648 := by omega
  have := Nat.mul_le_mul h1 h1
  have e : (x * x).natAbs = x.natAbs * x.natAbs := Int.natAbs_mul x x
  have := sq_nn x
  omega
theorem mul31' {x y : Int} (h : 0 ≤ x ∧ x ≤ 2147483648) (k : 0 ≤ y ∧ y ≤ 2147483648) : 0 ≤ x * y ∧ x * y ≤ 4611686018427387904 := by
  have h1 : x.natAbs ≤ 2147483648 := by omega
  have h2 : y.natAbs ≤ 2147483648 := by omega
  have := Nat.mul_le_mul h1 h2
  have e : (x * y).natAbs = x.natAbs * y.natAbs := Int.natAbs_mul x y
  have := Int.mul_nonneg h.1 k.1
  omega
theorem u_id {x : Int} (h1 : 0 ≤ x) (h2 : x < 18446744073709551616) : IntKind.u64.wrap x = x := by
  rw [IntKind.wrap_u64]
  omega
theorem lagrange (a b c d : Int) : (a * d - b * c) * (a * d - b * c) + (a * c + b * d) * (a * c + b * d) = (a * a + b * b) * (c * c + d * d) := by grind
theorem pure : calamuslaw10_GaussLaws.Pure := by
  intro x y hx hy
  obtain ⟨a, b⟩ := x
  obtain ⟨c, d⟩ := y
  have ha := i16_bd hx.1
  have hb := i16_bd hx.2
  have hc := i16_bd hy.1
  have hd := i16_bd hy.2
  refine ⟨12, ?_⟩
  unfold calamuslaw10_GaussLaws.f
  rw [alive_yes 0, bs, if_pos rfl]
  simp only []
  simp only [] at ha hb hc hd
  rw [w_id (x := a) (by omega) (by omega), w_id (x := b) (by omega) (by omega), w_id (x := c) (by omega) (by omega), w_id (x := d) (by omega) (by omega)]
  have g1 : gauss_Cross.gd a b = true := gauss_Cross.gd_iff.2 (by omega)
  have g2 : gauss_Cross.gd c d = true := gauss_Cross.gd_iff.2 (by omega)
  unfold gauss_Cross.f gauss_Dot.f
  simp only [g1, g2, Bool.and_self, if_true, bs]
  have m1 := mul16 ha hd
  have m2 := mul16 hb hc
  have m3 := mul16 ha hc
  have m4 := mul16 hb hd
  have m5 := mul16 ha ha
  have m6 := mul16 hb hb
  have m7 := mul16 hc hc
  have m8 := mul16 hd hd
  have n5 := sq_nn a
  have n6 := sq_nn b
  have n7 := sq_nn c
  have n8 := sq_nn d
  have e1 : wrap64 (-(c * b - d * a)) = a * d - b * c := by rw [Int.mul_comm c b, Int.mul_comm d a, w_id] <;> omega
  rw [if_pos e1.symm, if_pos (by rw [Int.mul_comm b a]; omega)]
  have hN := mul31 (x := a * d - b * c) (by omega)
  have hD := mul31 (x := a * c + b * d) (by omega)
  have hP := mul31' (x := a * a + b * b) (y := c * c + d * d) (by omega) (by omega)
  rw [w_id (x := (a * d - b * c) * (a * d - b * c)) (by omega) (by omega), w_id (x := (a * c + b * d) * (a * c + b * d)) (by omega) (by omega), u_id (x := (a * d - b * c) * (a * d - b * c)) (by omega) (by omega), u_id (x := (a * c + b * d) * (a * c + b * d)) (by omega) (by omega), u_id (x := a * a + b * b) (by omega) (by omega), u_id (x := c * c + d * d) (by omega) (by omega), lagrange a b c d]
  simp
end Go.Proofs.Ytgibokbkobcnaaa.G.gaussLaws
