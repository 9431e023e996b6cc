/- What the law WideSquares says over values alone (Pure); what arguments of its types read as. Written by wip/xprint.py. -/
import Derived.Test.YtiicdgimffpckaaWd0
import Derived.Test.YtiicdgimffpckaaOpen
namespace Go.Proofs.Ytiicdgimffpckaa.W.wideSquares
open Go.RowKit Go.Proofs.YtiicdgimffpckaaW.PrintWords Go.Proofs.YtiicdgimffpckaaW.PrintLast Go.Proofs.Ytiicdgimffpckaa.Opn
set_option linter.unusedVariables false
def G32 (x : Int) : Prop := (Lit.int .u32 x).wf = true
theorem o32 : Opens Try.prog 32 (Kd.int .u32) G32 := Opens.int Try.underlying32
def calamuslaw01_WideSquares.Pure : Prop := ∀ (x0 : Int) (x1 : Int), G32 x0 → G32 x1 → ∃ k, calamuslaw01_WideSquares.f k x0 x1 = some true
end Go.Proofs.Ytiicdgimffpckaa.W.wideSquares
