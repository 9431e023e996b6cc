/- The law OutlineMids over values alone: the middle of any two points is the document's, and lies between them. -/
import Derived.Test.YtoghjnmcimniaaaSOutlineMids
import Derived.Test.YtoghjnmcimniaaaYOutlineAlive
namespace Go.Proofs.Ytoghjnmcimniaaa.O.outlineMids
open Go.RowKit Go.Proofs.YtoghjnmcimniaaaW.PrintWords Go.Proofs.YtoghjnmcimniaaaW.PrintLast Go.Proofs.YtoghjnmcimniaaaW.PrintMore Go.Proofs.Ytoghjnmcimniaaa.O Go.Proofs.Ytoghjnmcimniaaa.O.Base

theorem pure : calamuslaw11_OutlineMids.Pure := by
  intro x y gx gy
  obtain ⟨hx0, hx1⟩ := gx
  obtain ⟨hy0, hy1⟩ := gy
  have h1 := i64_bd hx0
  have h2 := i64_bd hx1
  have h3 := i64_bd hy0
  have h4 := i64_bd hy1
  refine ⟨12, ?_⟩
  unfold calamuslaw11_OutlineMids.f
  rw [alive_yes 0, bs, if_pos rfl, mid_ok h1 h2 h3 h4, bs, ref_mid_ok h1 h2 h3 h4, bs, if_pos (by simp), mid_ok h3 h4 h1 h2, bs, hf_comm y.f0, hf_comm y.f1, if_pos (by simp)]
  unfold hf mn mx
  show (if _ ≥ _ then _ else _) = _
  rw [if_pos (by split <;> omega), if_pos (by split <;> omega), if_pos (by split <;> omega), decide_eq_true (by split <;> omega)]
end Go.Proofs.Ytoghjnmcimniaaa.O.outlineMids
