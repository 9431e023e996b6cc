/- What the law WideDivs says over values alone (Pure); what arguments of its types read as. Written by wip/xprint.py. -/
import Derived.Test.YtiicdgimffpckaaWd0
import Derived.Test.YtiicdgimffpckaaOpen
namespace Go.Proofs.Ytiicdgimffpckaa.W.wideDivs
open Go.RowKit Go.Proofs.YtiicdgimffpckaaW.PrintWords Go.Proofs.YtiicdgimffpckaaW.PrintLast Go.Proofs.Ytiicdgimffpckaa.Opn
set_option linter.unusedVariables false
def G2 (x : Int) : Prop := (Lit.int .i64 x).wf = true
theorem o2 : Opens Try.prog 2 (Kd.int .i64) G2 := Opens.int Try.underlying2
def G22 (x : Int) : Prop := (Lit.int .u64 x).wf = true
theorem o22 : Opens Try.prog 22 (Kd.int .u64) G22 := Opens.int Try.underlying22
def G24 (x : S24) : Prop := G2 x.f0 ∧ G22 x.f1
theorem o24 : Opens Try.prog 24 k24 G24 :=
  Opens.mono (Opens.iso (Opens.struct Try.underlying24 (by kernel_rfl) [(2, 0), (22, 1)] (by kernel_rfl) (Parts.cons o2 (by kernel_rfl) (by kernel_rfl) (Parts.one o22 (by kernel_rfl)))) (fun x : S24 => (x.f0, x.f1)) (fun p => ⟨p.1, p.2⟩) (fun _ => rfl)) (fun _ h => h)
def calamuslaw01_WideDivs.Pure : Prop := ∀ (x0 : S24) (x1 : Int), G24 x0 → G2 x1 → ∃ k, calamuslaw01_WideDivs.f k x0.f0 x0.f1 x1 = some true
end Go.Proofs.Ytiicdgimffpckaa.W.wideDivs
