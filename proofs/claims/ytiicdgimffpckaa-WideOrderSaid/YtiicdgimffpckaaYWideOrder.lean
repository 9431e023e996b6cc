/- The law WideOrder over values alone. -/
import Derived.Test.YtiicdgimffpckaaSWideOrder
import Derived.Test.YtiicdgimffpckaaYWideBase
namespace Go.Proofs.Ytiicdgimffpckaa.W.wideOrder
open Go.RowKit Go.Proofs.YtiicdgimffpckaaW.PrintWords Go.Proofs.YtiicdgimffpckaaW.PrintLast Go.Proofs.YtiicdgimffpckaaW.PrintMore Go.Proofs.Ytiicdgimffpckaa.W Go.Proofs.Ytiicdgimffpckaa.W.Base
set_option linter.unusedVariables false
set_option linter.unusedSimpArgs false
theorem pure : calamuslaw01_WideOrder.Pure := by
  intro x y hx hy
  obtain ⟨a, b⟩ := x
  obtain ⟨c, d⟩ := y
  have ha := i64_bd hx.1
  have hb := u64_bd hx.2
  have hc := i64_bd hy.1
  have hd := u64_bd hy.2
  simp only at ha hb hc hd
  refine ⟨0 + 80, ?_⟩
  show calamuslaw01_WideOrder.f (0 + 80) a b c d = some true
  unfold calamuslaw01_WideOrder.f
  rw [alive_yes 0, bs, if_pos rfl, Cmp_ok 79, bs, Sub_ok hb hd, bs]
  unfold wide_Sign.f
  rw [Cmp_ok 79, bs, bs]
  have h1 : -9223372036854775808 ≤ (a / 2) - (c / 2) + (b - d) / 18446744073709551616 := by omega
  have h2 : (a / 2) - (c / 2) + (b - d) / 18446744073709551616 < 9223372036854775808 := by omega
  simp only [w_id h1 h2]
  have e1 : cmp (a / 2) b (c / 2) d = cmp (a / 2 - c / 2 + (b - d) / 18446744073709551616) ((b - d) % 18446744073709551616) 0 0 := by
    unfold cmp
    omega
  rw [if_pos e1, bs, Cmp_ok 79, bs]
  have e2 : cmp (a / 2) b (c / 2) d = wrap64 (- cmp (c / 2) d (a / 2) b) := by
    unfold cmp wrap64
    omega
  rw [if_pos e2, Cmp_ok 79, bs]
  simp [cmp]
end Go.Proofs.Ytiicdgimffpckaa.W.wideOrder
