/- The law QuadBends over values alone: how far any piece bends, how often it is halved, and its box, are the document's. -/
import Derived.Test.YtoghjnmcimniaaaSQuadBends
import Derived.Test.YtoghjnmcimniaaaYQuadBendBase
namespace Go.Proofs.Ytoghjnmcimniaaa.Q.Base
open Go.RowKit Go.Proofs.YtoghjnmcimniaaaW.PrintWords Go.Proofs.YtoghjnmcimniaaaW.PrintLast Go.Proofs.YtoghjnmcimniaaaW.PrintMore Go.Proofs.Ytoghjnmcimniaaa.Q
theorem mn_swap (a b c : Int) : mn (mn a b) c = mn (mn a c) b := by
  unfold mn
  repeat' split
  all_goals omega
theorem mx_swap (a b c : Int) : mx (mx a b) c = mx (mx a c) b := by
  unfold mx
  repeat' split
  all_goals omega
def boxS (a b c d e f : Int) (v : Bool) : Int × Int × Int × Int := if v = true then (mn (mn a c) e, mn (mn b d) f, mx (mx a c) e, mx (mx b d) f) else (mn a e, mn b f, mx a e, mx b f)
theorem quad_box (a b c d e f : Int) (v : Bool) : quad_Box.f a b c d e f v = some (boxS a b c d e f v) := by
  unfold quad_Box.f boxS
  split <;> rfl
theorem ref_box (a b c d e f : Int) (v : Bool) : calamusref13_Box.f a b c d e f v = some (boxS a b c d e f v) := by
  unfold calamusref13_Box.f boxS
  split
  · rw [mn_swap a e c, mn_swap b f d, mx_swap a e c, mx_swap b f d]
  · rfl
end Go.Proofs.Ytoghjnmcimniaaa.Q.Base
namespace Go.Proofs.Ytoghjnmcimniaaa.Q.quadBends
open Go.RowKit Go.Proofs.YtoghjnmcimniaaaW.PrintWords Go.Proofs.YtoghjnmcimniaaaW.PrintLast Go.Proofs.Ytoghjnmcimniaaa.Q Go.Proofs.Ytoghjnmcimniaaa.Q.Base
theorem pure : calamuslaw13_QuadBends.Pure := by
  intro x _
  obtain ⟨n, hn, h1, h2, _⟩ := steps_both x.f0.f0 x.f0.f1 x.f1.f0 x.f1.f1 x.f2.f0 x.f2.f1 x.f3
  refine ⟨31, ?_⟩
  unfold calamuslaw13_QuadBends.f
  rw [alive_yes 9]
  simp only [bs, if_true]
  rw [quad_box, ref_box, quad_bend 28, ref_bend 30, h1 18, h2 0]
  simp only [bs, if_true]
  rw [if_pos (by omega), if_pos (by simp)]
  simp
end Go.Proofs.Ytoghjnmcimniaaa.Q.quadBends
