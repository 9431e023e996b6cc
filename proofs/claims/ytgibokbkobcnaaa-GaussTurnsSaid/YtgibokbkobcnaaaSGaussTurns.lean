/- What the law GaussTurns says over values alone (Pure); what arguments of its types read as. Written by wip/xprint.py. -/
import Derived.Test.YtgibokbkobcnaaaGd0
import Derived.Test.YtgibokbkobcnaaaOpen
namespace Go.Proofs.Ytgibokbkobcnaaa.G.gaussTurns
open Go.RowKit Go.Proofs.YtgibokbkobcnaaaW.PrintWords Go.Proofs.YtgibokbkobcnaaaW.PrintLast Go.Proofs.Ytgibokbkobcnaaa.Opn
set_option linter.unusedVariables false
def G3 (x : Int) : Prop := (Lit.int .i64 x).wf = true
theorem o3 : Opens Try.prog 3 (Kd.int .i64) G3 := Opens.int Try.underlying3
def G23 (x : S23) : Prop := G3 x.f0 ∧ G3 x.f1
theorem o23 : Opens Try.prog 23 k23 G23 :=
  Opens.mono (Opens.iso (Opens.struct Try.underlying23 (by kernel_rfl) [(3, 0), (3, 1)] (by kernel_rfl) (Parts.cons o3 (by kernel_rfl) (by kernel_rfl) (Parts.one o3 (by kernel_rfl)))) (fun x : S23 => (x.f0, x.f1)) (fun p => ⟨p.1, p.2⟩) (fun _ => rfl)) (fun _ h => h)
def G48 (x : S48) : Prop := G23 x.f0 ∧ G23 x.f1 ∧ G23 x.f2
theorem o48 : Opens Try.prog 48 k48 G48 :=
  Opens.mono (Opens.iso (Opens.array Try.underlying48 (by kernel_rfl) [(23, 0), (23, 2), (23, 4)] (by kernel_rfl) (Parts.cons o23 (by kernel_rfl) (by kernel_rfl) (Parts.cons o23 (by kernel_rfl) (by kernel_rfl) (Parts.one o23 (by kernel_rfl))))) (fun x : S48 => (x.f0, x.f1, x.f2)) (fun p => ⟨p.1, p.2.1, p.2.2⟩) (fun _ => rfl)) (fun _ h => h)
def calamuslaw10_GaussTurns.Pure : Prop := ∀ (x0 : S48) (x1 : Int), G48 x0 → G3 x1 → ∃ k, calamuslaw10_GaussTurns.f k x0.f0.f0 x0.f0.f1 x0.f1.f0 x0.f1.f1 x0.f2.f0 x0.f2.f1 x1 = some true
end Go.Proofs.Ytgibokbkobcnaaa.G.gaussTurns
