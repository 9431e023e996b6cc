/- The law QuadAt over values alone: the point of any piece at any share of its way, exactly and rounded, is the document's. -/
import Derived.Test.YtoghjnmcimniaaaSQuadAt
import Derived.Test.YtoghjnmcimniaaaYQuadAlive
namespace Go.Proofs.Ytoghjnmcimniaaa.Q.quadAt
open Go.RowKit Go.Proofs.YtoghjnmcimniaaaW.PrintWords Go.Proofs.YtoghjnmcimniaaaW.PrintLast Go.Proofs.Ytoghjnmcimniaaa.Q Go.Proofs.Ytoghjnmcimniaaa.Q.Base
theorem pure : calamuslaw13_QuadAt.Pure := by
  intro x n m _ _ _
  refine ⟨22, ?_⟩
  unfold calamuslaw13_QuadAt.f
  rw [alive_yes 0]
  simp only [bs, if_true]
  rw [quad_at 18, quad_round 18, ref_at 0, ref_round 0]
  simp
end Go.Proofs.Ytoghjnmcimniaaa.Q.quadAt
