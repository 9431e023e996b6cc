/- What the law QuadAt says over values alone (Pure); what arguments of its types read as. Written by wip/xprint.py. -/
import Derived.Test.YtoghjnmcimniaaaQd0
import Derived.Test.YtoghjnmcimniaaaOpen
namespace Go.Proofs.Ytoghjnmcimniaaa.Q.quadAt
open Go.RowKit Go.Proofs.YtoghjnmcimniaaaW.PrintWords Go.Proofs.YtoghjnmcimniaaaW.PrintLast Go.Proofs.Ytoghjnmcimniaaa.Opn
set_option linter.unusedVariables false
def G3 (x : Int) : Prop := (Lit.int .i64 x).wf = true
theorem o3 : Opens Try.prog 3 (Kd.int .i64) G3 := Opens.int Try.underlying3
def G33 (x : S33) : Prop := G3 x.f0 ∧ G3 x.f1
theorem o33 : Opens Try.prog 33 k33 G33 :=
  Opens.mono (Opens.iso (Opens.struct Try.underlying33 (by kernel_rfl) [(3, 0), (3, 1)] (by kernel_rfl) (Parts.cons o3 (by kernel_rfl) (by kernel_rfl) (Parts.one o3 (by kernel_rfl)))) (fun x : S33 => (x.f0, x.f1)) (fun p => ⟨p.1, p.2⟩) (fun _ => rfl)) (fun _ h => h)
def G4 (_ : Bool) : Prop := True
theorem o4 : Opens Try.prog 4 Kd.bool G4 := Opens.bool Try.underlying4
def G37 (x : S37) : Prop := G33 x.f0 ∧ G33 x.f1 ∧ G33 x.f2 ∧ G4 x.f3
theorem o37 : Opens Try.prog 37 k37 G37 :=
  Opens.mono (Opens.iso (Opens.struct Try.underlying37 (by kernel_rfl) [(33, 0), (33, 2), (33, 4), (4, 6)] (by kernel_rfl) (Parts.cons o33 (by kernel_rfl) (by kernel_rfl) (Parts.cons o33 (by kernel_rfl) (by kernel_rfl) (Parts.cons o33 (by kernel_rfl) (by kernel_rfl) (Parts.one o4 (by kernel_rfl)))))) (fun x : S37 => (x.f0, x.f1, x.f2, x.f3)) (fun p => ⟨p.1, p.2.1, p.2.2.1, p.2.2.2⟩) (fun _ => rfl)) (fun _ h => h)
def calamuslaw13_QuadAt.Pure : Prop := ∀ (x0 : S37) (x1 : Int) (x2 : Int), G37 x0 → G3 x1 → G3 x2 → ∃ k, calamuslaw13_QuadAt.f k x0.f0.f0 x0.f0.f1 x0.f1.f0 x0.f1.f1 x0.f2.f0 x0.f2.f1 x0.f3 x1 x2 = some true
end Go.Proofs.Ytoghjnmcimniaaa.Q.quadAt
