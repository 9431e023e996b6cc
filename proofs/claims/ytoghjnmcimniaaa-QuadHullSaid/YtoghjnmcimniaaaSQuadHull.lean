/- What the law QuadHull says over values alone (Pure); what arguments of its types read as. Written by wip/xprint.py. -/
import Derived.Test.YtoghjnmcimniaaaQd0
import Derived.Test.YtoghjnmcimniaaaOpen
namespace Go.Proofs.Ytoghjnmcimniaaa.Q.quadHull
open Go.RowKit Go.Proofs.YtoghjnmcimniaaaW.PrintWords Go.Proofs.YtoghjnmcimniaaaW.PrintLast Go.Proofs.Ytoghjnmcimniaaa.Opn
set_option linter.unusedVariables false
def G21 (x : Int) : Prop := (Lit.int .i32 x).wf = true
theorem o21 : Opens Try.prog 21 (Kd.int .i32) G21 := Opens.int Try.underlying21
def G61 (x : S61) : Prop := G21 x.f0 ∧ G21 x.f1
theorem o61 : Opens Try.prog 61 k61 G61 :=
  Opens.mono (Opens.iso (Opens.array Try.underlying61 (by kernel_rfl) [(21, 0), (21, 1)] (by kernel_rfl) (Parts.cons o21 (by kernel_rfl) (by kernel_rfl) (Parts.one o21 (by kernel_rfl)))) (fun x : S61 => (x.f0, x.f1)) (fun p => ⟨p.1, p.2⟩) (fun _ => rfl)) (fun _ h => h)
def G4 (_ : Bool) : Prop := True
theorem o4 : Opens Try.prog 4 Kd.bool G4 := Opens.bool Try.underlying4
def G63 (x : S63) : Prop := G61 x.f0 ∧ G61 x.f1 ∧ G61 x.f2 ∧ G4 x.f3
theorem o63 : Opens Try.prog 63 k63 G63 :=
  Opens.mono (Opens.iso (Opens.struct Try.underlying63 (by kernel_rfl) [(61, 0), (61, 2), (61, 4), (4, 6)] (by kernel_rfl) (Parts.cons o61 (by kernel_rfl) (by kernel_rfl) (Parts.cons o61 (by kernel_rfl) (by kernel_rfl) (Parts.cons o61 (by kernel_rfl) (by kernel_rfl) (Parts.one o4 (by kernel_rfl)))))) (fun x : S63 => (x.f0, x.f1, x.f2, x.f3)) (fun p => ⟨p.1, p.2.1, p.2.2.1, p.2.2.2⟩) (fun _ => rfl)) (fun _ h => h)
def G40 (x : Int) : Prop := (Lit.int .u16 x).wf = true
theorem o40 : Opens Try.prog 40 (Kd.int .u16) G40 := Opens.int Try.underlying40
def G5 (x : Int) : Prop := (Lit.int .u8 x).wf = true
theorem o5 : Opens Try.prog 5 (Kd.int .u8) G5 := Opens.int Try.underlying5
def calamuslaw13_QuadHull.Pure : Prop := ∀ (x0 : S63) (x1 : Int) (x2 : Int), G63 x0 → G40 x1 → G5 x2 → ∃ k, calamuslaw13_QuadHull.f k x0.f0.f0 x0.f0.f1 x0.f1.f0 x0.f1.f1 x0.f2.f0 x0.f2.f1 x0.f3 x1 x2 = some true
end Go.Proofs.Ytoghjnmcimniaaa.Q.quadHull
