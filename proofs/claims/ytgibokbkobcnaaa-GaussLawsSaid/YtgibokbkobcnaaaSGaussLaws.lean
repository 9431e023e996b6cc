/- What the law GaussLaws says over values alone (Pure); what arguments of its types read as. Written by wip/xprint.py. -/
import Derived.Test.YtgibokbkobcnaaaGd0
import Derived.Test.YtgibokbkobcnaaaOpen
namespace Go.Proofs.Ytgibokbkobcnaaa.G.gaussLaws
open Go.RowKit Go.Proofs.YtgibokbkobcnaaaW.PrintWords Go.Proofs.YtgibokbkobcnaaaW.PrintLast Go.Proofs.Ytgibokbkobcnaaa.Opn
set_option linter.unusedVariables false
def G39 (x : Int) : Prop := (Lit.int .i16 x).wf = true
theorem o39 : Opens Try.prog 39 (Kd.int .i16) G39 := Opens.int Try.underlying39
def G40 (x : S40) : Prop := G39 x.f0 ∧ G39 x.f1
theorem o40 : Opens Try.prog 40 k40 G40 :=
  Opens.mono (Opens.iso (Opens.array Try.underlying40 (by kernel_rfl) [(39, 0), (39, 1)] (by kernel_rfl) (Parts.cons o39 (by kernel_rfl) (by kernel_rfl) (Parts.one o39 (by kernel_rfl)))) (fun x : S40 => (x.f0, x.f1)) (fun p => ⟨p.1, p.2⟩) (fun _ => rfl)) (fun _ h => h)
def calamuslaw10_GaussLaws.Pure : Prop := ∀ (x0 : S40) (x1 : S40), G40 x0 → G40 x1 → ∃ k, calamuslaw10_GaussLaws.f k x0.f0 x0.f1 x1.f0 x1.f1 = some true
end Go.Proofs.Ytgibokbkobcnaaa.G.gaussLaws
