/- The law WideSquares over values alone. -/
import Derived.Test.YtiicdgimffpckaaSWideSquares
import Derived.Test.YtiicdgimffpckaaYWideRootBase
namespace Go.Proofs.Ytiicdgimffpckaa.W.wideSquares
open Go.RowKit Go.Proofs.YtiicdgimffpckaaW.PrintWords Go.Proofs.YtiicdgimffpckaaW.PrintLast Go.Proofs.YtiicdgimffpckaaW.PrintMore Go.Proofs.Ytiicdgimffpckaa.W Go.Proofs.Ytiicdgimffpckaa.W.Base
set_option linter.unusedVariables false
set_option linter.unusedSimpArgs false
theorem pure : calamuslaw01_WideSquares.Pure := by
  intro n m hn hm
  have hn := u32_bd hn
  have hm := u32_bd hm
  refine ⟨0 + 80, ?_⟩
  unfold calamuslaw01_WideSquares.f
  rw [alive_yes 0, bs, if_pos rfl]
  have e1 : wrap64 n = n := w_id (by omega) (by omega)
  have e2 : IntKind.u64.wrap n = n := by rw [u_w]; omega
  have e3 : IntKind.u64.wrap m = m := by rw [u_w]; omega
  have e4 : IntKind.u64.wrap (IntKind.u64.wrap (2 * n) + 1) = 2 * n + 1 := by rw [u_w, u_w]; omega
  simp only [e1, e2, e3, e4]
  rw [Mul_ok (by omega) (by omega), bs, if_neg (by omega)]
  have e5 : Int.tmod m (2 * n + 1) = m % (2 * n + 1) := Int.tmod_eq_emod_of_nonneg hm.1
  have h0 : 0 ≤ m % (2 * n + 1) := Int.emod_nonneg _ (by omega)
  have h1 : m % (2 * n + 1) < 2 * n + 1 := Int.emod_lt_of_pos _ (by omega)
  rw [e5]
  generalize m % (2 * n + 1) = r at *
  have e6 : wrap64 r = r := w_id (by omega) (by omega)
  have hq : n * n ≤ 4294967295 * 4294967295 := Int.mul_le_mul (by omega) (by omega) hn.1 (by omega)
  have hq0 : 0 ≤ n * n := Int.mul_nonneg hn.1 hn.1
  have hs : (n + 1) * (n + 1) = n * n + 2 * n + 1 := by grind
  have f1 : n * n / 18446744073709551616 = 0 := by omega
  have f2 : n * n % 18446744073709551616 = n * n := by omega
  rw [e6, Of_ok (by omega), bs, if_neg (by omega), f1, f2]
  have f3 : r % 18446744073709551616 = r := by omega
  rw [f3, Add_ok ⟨by omega, by omega⟩ ⟨by omega, by omega⟩, bs]
  have f4 : wrap64 (0 + 0 + (n * n + r) / 18446744073709551616) = 0 := by rw [w_id (by omega) (by omega)]; omega
  have f5 : (n * n + r) % 18446744073709551616 = n * n + r := by omega
  simp only [f4, f5]
  obtain ⟨s, g1, g2, g3, g4, g5⟩ := Root_ok 15 (h := 0) (l := n * n) (by omega) (by omega)
  obtain ⟨t, k1, k2, k3, k4, k5⟩ := Root_ok 15 (h := 0) (l := n * n + r) (by omega) (by omega)
  have hs1 : s = n := root_only g2 hn.1 g4 g5 (by omega) (by omega)
  have ht1 : t = n := root_only k2 hn.1 k4 k5 (by omega) (by omega)
  subst hs1
  subst ht1
  show ((wide_Root.f (65 + 15) 0 (t * t)).bind fun bt586 => (wide_Root.f (65 + 15) 0 (t * t + r)).bind fun bt588 => _) = _
  rw [g1, bs, k1, bs]
  simp
end Go.Proofs.Ytiicdgimffpckaa.W.wideSquares
