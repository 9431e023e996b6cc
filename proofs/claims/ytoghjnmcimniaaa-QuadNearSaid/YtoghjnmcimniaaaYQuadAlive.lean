/- The document's examples of layer 13 (quad) hold. -/
import Derived.Test.YtoghjnmcimniaaaYQuadRound
namespace Go.Proofs.Ytoghjnmcimniaaa.Q.Base
open Go.RowKit Go.Proofs.YtoghjnmcimniaaaW.PrintWords Go.Proofs.YtoghjnmcimniaaaW.PrintLast Go.Proofs.YtoghjnmcimniaaaW.PrintMore Go.Proofs.Ytoghjnmcimniaaa.Q
theorem alive_yes (K : Nat) : calamuslaw13_alive.f (K + 22) = some true := by
  have h : calamuslaw13_alive.f 12 = some true := by decide +kernel
  exact at_rounds (fun k => calamuslaw13_alive.mono k) (by omega) h
end Go.Proofs.Ytoghjnmcimniaaa.Q.Base
