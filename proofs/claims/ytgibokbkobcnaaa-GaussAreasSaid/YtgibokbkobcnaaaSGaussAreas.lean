/- What the law GaussAreas says over values alone (Pure); what arguments of its types read as. Written by wip/xprint.py. -/
import Derived.Test.YtgibokbkobcnaaaGd0
import Derived.Test.YtgibokbkobcnaaaOpen
namespace Go.Proofs.Ytgibokbkobcnaaa.G.gaussAreas
open Go.RowKit Go.Proofs.YtgibokbkobcnaaaW.PrintWords Go.Proofs.YtgibokbkobcnaaaW.PrintLast Go.Proofs.Ytgibokbkobcnaaa.Opn
set_option linter.unusedVariables false
def G3 (x : Int) : Prop := (Lit.int .i64 x).wf = true
theorem o3 : Opens Try.prog 3 (Kd.int .i64) G3 := Opens.int Try.underlying3
def G23 (x : S23) : Prop := G3 x.f0 ∧ G3 x.f1
theorem o23 : Opens Try.prog 23 k23 G23 :=
  Opens.mono (Opens.iso (Opens.struct Try.underlying23 (by kernel_rfl) [(3, 0), (3, 1)] (by kernel_rfl) (Parts.cons o3 (by kernel_rfl) (by kernel_rfl) (Parts.one o3 (by kernel_rfl)))) (fun x : S23 => (x.f0, x.f1)) (fun p => ⟨p.1, p.2⟩) (fun _ => rfl)) (fun _ h => h)
def G34 (x : List (S23)) : Prop := x.length ≤ maxLen ∧ x.length * 16 ≤ 140737488351232 ∧ ∀ a ∈ x, G23 a
theorem o34 : Opens Try.prog 34 (Kd.slice 23 k23) G34 := Opens.slice Try.underlying34 (by kernel_rfl) 16 (by kernel_rfl) o23
def calamuslaw10_GaussAreas.Pure : Prop := ∀ (x0 : List (S23)), G34 x0 → ∃ k, calamuslaw10_GaussAreas.f k x0 = some true
end Go.Proofs.Ytgibokbkobcnaaa.G.gaussAreas
