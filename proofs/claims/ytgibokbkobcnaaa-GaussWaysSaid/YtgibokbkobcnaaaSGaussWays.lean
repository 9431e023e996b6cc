/- What the law GaussWays says over values alone (Pure); what arguments of its types read as. Written by wip/xprint.py. -/
import Derived.Test.YtgibokbkobcnaaaGd0
import Derived.Test.YtgibokbkobcnaaaOpen
namespace Go.Proofs.Ytgibokbkobcnaaa.G.gaussWays
open Go.RowKit Go.Proofs.YtgibokbkobcnaaaW.PrintWords Go.Proofs.YtgibokbkobcnaaaW.PrintLast Go.Proofs.Ytgibokbkobcnaaa.Opn
set_option linter.unusedVariables false
def G21 (x : Int) : Prop := (Lit.int .i32 x).wf = true
theorem o21 : Opens Try.prog 21 (Kd.int .i32) G21 := Opens.int Try.underlying21
def G44 (x : S44) : Prop := G21 x.f0 ∧ G21 x.f1
theorem o44 : Opens Try.prog 44 k44 G44 :=
  Opens.mono (Opens.iso (Opens.array Try.underlying44 (by kernel_rfl) [(21, 0), (21, 1)] (by kernel_rfl) (Parts.cons o21 (by kernel_rfl) (by kernel_rfl) (Parts.one o21 (by kernel_rfl)))) (fun x : S44 => (x.f0, x.f1)) (fun p => ⟨p.1, p.2⟩) (fun _ => rfl)) (fun _ h => h)
def G43 (x : List (S44)) : Prop := x.length ≤ maxLen ∧ x.length * 8 ≤ 140737488351232 ∧ ∀ a ∈ x, G44 a
theorem o43 : Opens Try.prog 43 (Kd.slice 44 k44) G43 := Opens.slice Try.underlying43 (by kernel_rfl) 8 (by kernel_rfl) o44
def G5 (x : Int) : Prop := (Lit.int .u8 x).wf = true
theorem o5 : Opens Try.prog 5 (Kd.int .u8) G5 := Opens.int Try.underlying5
def calamuslaw10_GaussWays.Pure : Prop := ∀ (x0 : List (S44)) (x1 : S44) (x2 : Int), G43 x0 → G44 x1 → G5 x2 → ∃ k, calamuslaw10_GaussWays.f k x0 x1.f0 x1.f1 x2 = some true
end Go.Proofs.Ytgibokbkobcnaaa.G.gaussWays
