/- What the law GaussMoves says over values alone (Pure); what arguments of its types read as. Written by wip/xprint.py. -/
import Derived.Test.YtgibokbkobcnaaaGd0
import Derived.Test.YtgibokbkobcnaaaOpen
namespace Go.Proofs.Ytgibokbkobcnaaa.G.gaussMoves
open Go.RowKit Go.Proofs.YtgibokbkobcnaaaW.PrintWords Go.Proofs.YtgibokbkobcnaaaW.PrintLast Go.Proofs.Ytgibokbkobcnaaa.Opn
set_option linter.unusedVariables false
def G21 (x : Int) : Prop := (Lit.int .i32 x).wf = true
theorem o21 : Opens Try.prog 21 (Kd.int .i32) G21 := Opens.int Try.underlying21
def G44 (x : S44) : Prop := G21 x.f0 ∧ G21 x.f1
theorem o44 : Opens Try.prog 44 k44 G44 :=
  Opens.mono (Opens.iso (Opens.array Try.underlying44 (by kernel_rfl) [(21, 0), (21, 1)] (by kernel_rfl) (Parts.cons o21 (by kernel_rfl) (by kernel_rfl) (Parts.one o21 (by kernel_rfl)))) (fun x : S44 => (x.f0, x.f1)) (fun p => ⟨p.1, p.2⟩) (fun _ => rfl)) (fun _ h => h)
def G54 (x : S54) : Prop := G44 x.f0 ∧ G44 x.f1 ∧ G44 x.f2
theorem o54 : Opens Try.prog 54 k54 G54 :=
  Opens.mono (Opens.iso (Opens.array Try.underlying54 (by kernel_rfl) [(44, 0), (44, 2), (44, 4)] (by kernel_rfl) (Parts.cons o44 (by kernel_rfl) (by kernel_rfl) (Parts.cons o44 (by kernel_rfl) (by kernel_rfl) (Parts.one o44 (by kernel_rfl))))) (fun x : S54 => (x.f0, x.f1, x.f2)) (fun p => ⟨p.1, p.2.1, p.2.2⟩) (fun _ => rfl)) (fun _ h => h)
def G3 (x : Int) : Prop := (Lit.int .i64 x).wf = true
theorem o3 : Opens Try.prog 3 (Kd.int .i64) G3 := Opens.int Try.underlying3
def calamuslaw10_GaussMoves.Pure : Prop := ∀ (x0 : S54) (x1 : S44) (x2 : Int), G54 x0 → G44 x1 → G3 x2 → ∃ k, calamuslaw10_GaussMoves.f k x0.f0.f0 x0.f0.f1 x0.f1.f0 x0.f1.f1 x0.f2.f0 x0.f2.f1 x1.f0 x1.f1 x2 = some true
end Go.Proofs.Ytgibokbkobcnaaa.G.gaussMoves
