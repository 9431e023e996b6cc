/- The law GaussTurns over values alone. -/
import Derived.Test.YtgibokbkobcnaaaSGaussTurns
import Derived.Test.YtgibokbkobcnaaaYGaussBase
namespace Go.Proofs.Ytgibokbkobcnaaa.G.gaussTurns
open Go.RowKit Go.Proofs.YtgibokbkobcnaaaW.PrintWords Go.Proofs.YtgibokbkobcnaaaW.PrintLast Go.Proofs.YtgibokbkobcnaaaW.PrintMore Go.Proofs.Ytgibokbkobcnaaa.G Go.Proofs.Ytgibokbkobcnaaa.G.Base
set_option linter.unusedVariables false
set_option linter.unusedSimpArgs false
theorem i64_bd {x : Int} (h : (Lit.int .i64 x).wf = true) : -9223372036854775808 ≤ x ∧ x < 9223372036854775808 := by
  simp [Lit.wf, IntKind.min, IntKind.max, IntKind.bits, IntKind.signed] at h
  omega
theorem tm4 (n : Int) : Int.tmod (wrap64 (Int.tmod n 4 + 4)) 4 = n % 4 := by
  rcases Int.le_total 0 n with h | h
  · rw [Int.tmod_eq_emod_of_nonneg h, w_id (by omega) (by omega), Int.tmod_eq_emod_of_nonneg (by omega)]
    omega
  · have e : Int.tmod n 4 = -((-n) % 4) := by
      have : n = -(-n) := by omega
      rw [this, Int.neg_tmod, Int.tmod_eq_emod_of_nonneg (by omega)]
      omega
    rw [e, w_id (by omega) (by omega), Int.tmod_eq_emod_of_nonneg (by omega)]
    omega
theorem quarter_ref (K : Nat) {x y n : Int} (hx : Bd x) (hy : Bd y) : calamusref10_Quarter.f (K + 6) x y n = some (gauss_Quarter.q x y (n % 4).toNat) := by
  unfold calamusref10_Quarter.f
  rw [tm4]
  have h : n % 4 = 0 ∨ n % 4 = 1 ∨ n % 4 = 2 ∨ n % 4 = 3 := by omega
  have wx := w_neg hx
  have wy := w_neg hy
  have wyy : wrap64 y = y := by unfold Bd at hy; rw [w_id] <;> omega
  have w0 : wrap64 0 = 0 := by unfold wrap64; omega
  have w1 : wrap64 1 = 1 := by unfold wrap64; omega
  have w2 : wrap64 2 = 2 := by unfold wrap64; omega
  rcases h with h | h | h | h <;> rw [h] <;> simp [calamusref10_Quarter.l0, gauss_Quarter.q, wx, wy, wyy, w0, w1, w2]
theorem all_ref (K : Nat) (p q r : S23) : calamusref10_All.f (K + 6) [p, q, r] = some (gauss_Cross.gd p.f0 p.f1 && gauss_Cross.gd q.f0 q.f1 && gauss_Cross.gd r.f0 r.f1) := by
  unfold calamusref10_All.f
  have w0 : wrap64 (0 + 1) = 1 := by unfold wrap64; omega
  have w1 : wrap64 (1 + 1) = 2 := by unfold wrap64; omega
  have w2 : wrap64 (2 + 1) = 3 := by unfold wrap64; omega
  have r0 : rd_T23 [p, q, r] 0 = p := rfl
  have r1 : rd_T23 [p, q, r] 1 = q := rfl
  have r2 : rd_T23 [p, q, r] 2 = r := rfl
  have hl : (([p, q, r] : List S23).length : Int) = 3 := rfl
  rw [hl, show K + 6 = (K + 5) + 1 by omega, calamusref10_All.l0, if_pos (by decide), if_pos (by decide), hl, if_pos (by decide), r0, ref_gd, bs, w0]
  cases g0 : gauss_Cross.gd p.f0 p.f1
  · rfl
  · rw [if_pos rfl, show K + 5 = (K + 4) + 1 by omega, calamusref10_All.l0, if_pos (by decide), if_pos (by decide), hl, if_pos (by decide), r1, ref_gd, bs, w1]
    cases g1 : gauss_Cross.gd q.f0 q.f1
    · rfl
    · rw [if_pos rfl, show K + 4 = (K + 3) + 1 by omega, calamusref10_All.l0, if_pos (by decide), if_pos (by decide), hl, if_pos (by decide), r2, ref_gd, bs, w2]
      cases g2 : gauss_Cross.gd r.f0 r.f1
      · rfl
      · rw [if_pos rfl, show K + 3 = (K + 2) + 1 by omega, calamusref10_All.l0, if_neg (by decide)]
        rfl
theorem turn_ref {a b c d e f : Int} (ha : Bd a) (hb : Bd b) (hc : Bd c) (hd : Bd d) (he : Bd e) (hf : Bd f) {z : Int} (hz : (c - a) * (f - b) - (d - b) * (e - a) = z) :
    calamusref10_Turn.f a b c d e f = some (if z > 0 then 1 else if z < 0 then -1 else 0) := by
  unfold Bd at *
  have pb : ∀ {x y : Int}, -8388608 ≤ x ∧ x ≤ 8388608 → -8388608 ≤ y ∧ y ≤ 8388608 → -70368744177664 ≤ x * y ∧ x * y ≤ 70368744177664 := by
    intro x y hx hy
    have h1 : x.natAbs ≤ 8388608 := by omega
    have h2 : y.natAbs ≤ 8388608 := by omega
    have := Nat.mul_le_mul h1 h2
    have e : (x * y).natAbs = x.natAbs * y.natAbs := Int.natAbs_mul x y
    omega
  have p1 := pb (x := c - a) (y := f - b) (by omega) (by omega)
  have p2 := pb (x := d - b) (y := e - a) (by omega) (by omega)
  unfold calamusref10_Turn.f calamusref10_Less.f calamusref10_Cross.f calamusref10_Sign.f
  rw [bs, bs, bs]
  rw [w_id (x := c - a) (by omega) (by omega), w_id (x := d - b) (by omega) (by omega), w_id (x := e - a) (by omega) (by omega), w_id (x := f - b) (by omega) (by omega)]
  simp only
  rw [w_id (x := (c - a) * (f - b)) (by omega) (by omega), w_id (x := (d - b) * (e - a)) (by omega) (by omega), w_id (by omega) (by omega), hz]
  by_cases h1 : z > 0
  · rw [if_neg (by omega), if_pos h1, bs]
    unfold mn
    congr 1
    first | (split <;> omega) | omega
  · rw [if_neg h1]
    by_cases h2 : z < 0
    · rw [if_pos h2, if_pos h2, bs]
    · rw [if_neg h2, if_neg h2, bs]
      unfold mn
      congr 1
      first | (split <;> omega) | omega
theorem J (K : Nat) (a b c d e f t r : Int) (h : gauss_Turn.f a b c d e f = some (t, r)) : calamuslaw10_GaussTurns.j0 (K + 7) t r a b c d e f = some true := by
  rw [show K + 7 = (K + 6) + 1 by omega, calamuslaw10_GaussTurns.j0, all_ref, bs]
  simp only
  unfold gauss_Turn.f at h
  cases g : (gauss_Cross.gd a b && gauss_Cross.gd c d && gauss_Cross.gd e f)
  · rw [g, if_neg (by decide)] at h
    obtain ⟨rfl, rfl⟩ := Prod.mk.inj (Option.some.inj h)
    rw [if_neg (by decide), if_pos rfl]
    rfl
  · rw [g, if_pos rfl] at h
    rw [if_pos rfl]
    simp only [Bool.and_eq_true] at g
    obtain ⟨⟨g0, g1⟩, g2⟩ := g
    obtain ⟨b0, b1⟩ := bd_of g0
    obtain ⟨b2, b3⟩ := bd_of g1
    obtain ⟨b4, b5⟩ := bd_of g2
    rw [turn_ref b0 b1 b2 b3 b4 b5 rfl]
    generalize (c - a) * (f - b) - (d - b) * (e - a) = z at *
    by_cases h1 : z > 0
    · rw [if_pos h1] at h ⊢
      obtain ⟨rfl, rfl⟩ := Prod.mk.inj (Option.some.inj h)
      rfl
    · rw [if_neg h1] at h ⊢
      by_cases h2 : z < 0
      · rw [if_pos h2] at h ⊢
        obtain ⟨rfl, rfl⟩ := Prod.mk.inj (Option.some.inj h)
        rfl
      · rw [if_neg h2] at h ⊢
        obtain ⟨rfl, rfl⟩ := Prod.mk.inj (Option.some.inj h)
        rfl
theorem turn_some (a b c d e f : Int) : ∃ t r, gauss_Turn.f a b c d e f = some (t, r) := by
  unfold gauss_Turn.f
  split
  · split
    · exact ⟨_, _, rfl⟩
    · split
      · exact ⟨_, _, rfl⟩
      · exact ⟨_, _, rfl⟩
  · exact ⟨_, _, rfl⟩
theorem pure : calamuslaw10_GaussTurns.Pure := by
  intro x n hx hn
  obtain ⟨⟨a, b⟩, ⟨c, d⟩, ⟨e, f⟩⟩ := x
  refine ⟨0 + 12, ?_⟩
  show calamuslaw10_GaussTurns.f (0 + 12) a b c d e f n = some true
  unfold calamuslaw10_GaussTurns.f
  obtain ⟨t, r, ht⟩ := turn_some a b c d e f
  rw [alive_yes 0, bs, if_pos rfl, ht, bs, ref_gd]
  have hj := J 5 a b c d e f t r ht
  unfold gauss_Quarter.f
  cases g : gauss_Cross.gd a b
  · rw [if_neg (by decide), bs, bs, if_neg (by decide), if_pos rfl]
    simp only
    rw [if_neg (by decide)]
    exact hj
  · obtain ⟨b0, b1⟩ := bd_of g
    rw [if_pos rfl, bs, bs, if_pos rfl, if_pos rfl, quarter_ref 6 b0 b1, bs]
    rw [if_neg (by simp)]
    exact hj
end Go.Proofs.Ytgibokbkobcnaaa.G.gaussTurns
