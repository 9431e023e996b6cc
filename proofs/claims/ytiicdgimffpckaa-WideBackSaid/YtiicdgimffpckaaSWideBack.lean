/- What the law WideBack says over values alone (Pure); what arguments of its types read as. Written by wip/xprint.py. -/
import Derived.Test.YtiicdgimffpckaaWd0
import Derived.Test.YtiicdgimffpckaaOpen
namespace Go.Proofs.Ytiicdgimffpckaa.W.wideBack
open Go.RowKit Go.Proofs.YtiicdgimffpckaaW.PrintWords Go.Proofs.YtiicdgimffpckaaW.PrintLast Go.Proofs.Ytiicdgimffpckaa.Opn
set_option linter.unusedVariables false
def G2 (x : Int) : Prop := (Lit.int .i64 x).wf = true
theorem o2 : Opens Try.prog 2 (Kd.int .i64) G2 := Opens.int Try.underlying2
def calamuslaw01_WideBack.Pure : Prop := ∀ (x0 : Int) (x1 : Int), G2 x0 → G2 x1 → ∃ k, calamuslaw01_WideBack.f k x0 x1 = some true
end Go.Proofs.Ytiicdgimffpckaa.W.wideBack
