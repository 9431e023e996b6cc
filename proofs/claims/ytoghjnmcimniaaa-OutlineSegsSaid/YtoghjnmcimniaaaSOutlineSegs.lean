/- What the law OutlineSegs says over values alone (Pure); what arguments of its types read as. Written by wip/xprint.py. -/
import Derived.Test.YtoghjnmcimniaaaOd0
import Derived.Test.YtoghjnmcimniaaaOpen
namespace Go.Proofs.Ytoghjnmcimniaaa.O.outlineSegs
open Go.RowKit Go.Proofs.YtoghjnmcimniaaaW.PrintWords Go.Proofs.YtoghjnmcimniaaaW.PrintLast Go.Proofs.Ytoghjnmcimniaaa.Opn
set_option linter.unusedVariables false
def G3 (x : Int) : Prop := (Lit.int .i64 x).wf = true
theorem o3 : Opens Try.prog 3 (Kd.int .i64) G3 := Opens.int Try.underlying3
def G4 (_ : Bool) : Prop := True
theorem o4 : Opens Try.prog 4 Kd.bool G4 := Opens.bool Try.underlying4
def G39 (x : S39) : Prop := G3 x.f0 ∧ G3 x.f1 ∧ G4 x.f2
theorem o39 : Opens Try.prog 39 k39 G39 :=
  Opens.mono (Opens.iso (Opens.struct Try.underlying39 (by kernel_rfl) [(3, 0), (3, 1), (4, 2)] (by kernel_rfl) (Parts.cons o3 (by kernel_rfl) (by kernel_rfl) (Parts.cons o3 (by kernel_rfl) (by kernel_rfl) (Parts.one o4 (by kernel_rfl))))) (fun x : S39 => (x.f0, x.f1, x.f2)) (fun p => ⟨p.1, p.2.1, p.2.2⟩) (fun _ => rfl)) (fun _ h => h)
def G23 (x : List (S39)) : Prop := x.length ≤ maxLen ∧ x.length * 24 ≤ 140737488351232 ∧ ∀ a ∈ x, G39 a
theorem o23 : Opens Try.prog 23 (Kd.slice 39 k39) G23 := Opens.slice Try.underlying23 (by kernel_rfl) 24 (by kernel_rfl) o39
def calamuslaw11_OutlineSegs.Pure : Prop := ∀ (x0 : List (S39)), G23 x0 → ∃ k, calamuslaw11_OutlineSegs.f k x0 = some true
end Go.Proofs.Ytoghjnmcimniaaa.O.outlineSegs
