/- The law QuadHalves over values alone: the halves of a piece have its points. -/
import Derived.Test.YtoghjnmcimniaaaSQuadHalves
import Derived.Test.YtoghjnmcimniaaaYQuadPiece
namespace Go.Proofs.Ytoghjnmcimniaaa.Q.quadHalves
open Go.RowKit Go.Proofs.YtoghjnmcimniaaaW.PrintWords Go.Proofs.YtoghjnmcimniaaaW.PrintLast Go.Proofs.Ytoghjnmcimniaaa.Q Go.Proofs.Ytoghjnmcimniaaa.Q.Base
set_option linter.unusedVariables false
theorem pure : calamuslaw13_QuadHalves.Pure := by
  intro x a1 a2 hx k1 k2
  obtain ⟨A, B, C, D, E, F, hseg, sA, sB, sC, sD, sE, sF, hv⟩ := seg_eval _ _ _ _ _ _ x.f3 hx.1.1 hx.1.2 hx.2.1.1 hx.2.1.2 hx.2.2.1.1 hx.2.2.1.2
  obtain ⟨m, i, hm, e1, e2, e3, e4, e5, i0, i1⟩ := share (j := 9) k1 k2 (Or.inl rfl)
  have e1 : wrap64 (Int.tmod a2 9) = (m : Int) := e1
  have hp := two_pow (n := m) (by omega)
  have hM : ((2 ^ (m + 1) : Nat) : Int) = 2 * ((2 ^ m : Nat) : Int) := by rw [Nat.pow_succ, Int.natCast_mul]; omega
  have hm1 : m ≤ 10 := Nat.le_trans (Nat.le_of_lt hm) (by decide)
  have hm2 : m + 1 ≤ 10 := Nat.le_trans hm (by decide)
  generalize hq : ((2 ^ m : Nat) : Int) = q at *
  have q0 : 1 ≤ q := by rw [← hq]; exact Int.ofNat_le.2 hp.1
  have q1 : q ≤ 1024 := by rw [← hq]; exact Int.ofNat_le.2 hp.2
  clear hp
  have n1 : 0 ≤ (m : Int) := Int.natCast_nonneg m
  have n2 : q + 1 ≠ 0 := by omega
  have hw : wrap64 ((m : Int) + 1) = ((m + 1 : Nat) : Int) := by rw [w_id (by omega) (by omega)]; omega
  have hw2 : wrap64 (i + q) = i + q := w_id (by omega) (by omega)
  have r1 : i ≤ 2 * q := by omega
  have r2 : 0 ≤ i + q := by omega
  have r3 : i + q ≤ 2 * q := by omega
  have g0 : gs A B C D E F x.f3 = true := gs_sm sA sB sC sD sE sF
  have g1 : gs (4 * A) (4 * B) (hl x.f3 A C E) (hl x.f3 B D F) (h2 x.f3 A C E) (h2 x.f3 B D F) x.f3 = true := by
    unfold sm at sA sB sC sD sE sF
    refine gs_of (by omega) (by omega) ?_ ?_ ?_ ?_ <;> ((first | unfold hl | unfold h2) <;> split <;> omega)
  have g2 : gs (h2 x.f3 A C E) (h2 x.f3 B D F) (hr x.f3 A C E) (hr x.f3 B D F) (4 * E) (4 * F) x.f3 = true := by
    unfold sm at sA sB sC sD sE sF
    refine gs_of ?_ ?_ ?_ ?_ (by omega) (by omega) <;> ((first | unfold hr | unfold h2) <;> split <;> omega)
  have t1 := atS_ok g1 hm1 i0 (by rw [hq]; exact i1)
  have t2 := atS_ok g2 hm1 i0 (by rw [hq]; exact i1)
  have t3 := atS_ok g0 hm2 i0 (by rw [hM]; exact r1)
  have t4 := atS_ok g0 hm2 r2 (by rw [hM]; exact r3)
  rw [hq] at t1 t2
  rw [hM] at t3 t4
  rw [co_left _ _ _ _ _ _ (fun h => (hv h).1), co_left _ _ _ _ _ _ (fun h => (hv h).2)] at t1
  rw [co_right _ _ _ _ _ _ (fun h => (hv h).1), co_right _ _ _ _ _ _ (fun h => (hv h).2)] at t2
  refine ⟨22, ?_⟩
  unfold calamuslaw13_QuadHalves.f
  rw [alive_yes 0]
  simp only [bs, if_true, e1, e2, e3, e4, e5, hseg]
  rw [if_pos n1, if_neg n2, quad_split 17, spl_eval sA sB sC sD sE sF hv]
  simp only [bs]
  rw [hw, hw2, quad_at 18, quad_at 18, quad_at 18, quad_at 18, t1, t2, t3, t4]
  simp only [bs]
  simp
end Go.Proofs.Ytoghjnmcimniaaa.Q.quadHalves
