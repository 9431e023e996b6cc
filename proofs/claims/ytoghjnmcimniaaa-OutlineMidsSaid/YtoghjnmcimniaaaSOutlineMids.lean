/- What the law OutlineMids says over values alone (Pure); what arguments of its types read as. Written by wip/xprint.py. -/
import Derived.Test.YtoghjnmcimniaaaOd0
import Derived.Test.YtoghjnmcimniaaaOpen
namespace Go.Proofs.Ytoghjnmcimniaaa.O.outlineMids
open Go.RowKit Go.Proofs.YtoghjnmcimniaaaW.PrintWords Go.Proofs.YtoghjnmcimniaaaW.PrintLast Go.Proofs.Ytoghjnmcimniaaa.Opn
set_option linter.unusedVariables false
def G3 (x : Int) : Prop := (Lit.int .i64 x).wf = true
theorem o3 : Opens Try.prog 3 (Kd.int .i64) G3 := Opens.int Try.underlying3
def G33 (x : S33) : Prop := G3 x.f0 ∧ G3 x.f1
theorem o33 : Opens Try.prog 33 k33 G33 :=
  Opens.mono (Opens.iso (Opens.struct Try.underlying33 (by kernel_rfl) [(3, 0), (3, 1)] (by kernel_rfl) (Parts.cons o3 (by kernel_rfl) (by kernel_rfl) (Parts.one o3 (by kernel_rfl)))) (fun x : S33 => (x.f0, x.f1)) (fun p => ⟨p.1, p.2⟩) (fun _ => rfl)) (fun _ h => h)
def calamuslaw11_OutlineMids.Pure : Prop := ∀ (x0 : S33) (x1 : S33), G33 x0 → G33 x1 → ∃ k, calamuslaw11_OutlineMids.f k x0.f0 x0.f1 x1.f0 x1.f1 = some true
end Go.Proofs.Ytoghjnmcimniaaa.O.outlineMids
