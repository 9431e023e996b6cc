/- What Go functions answer, as Lean functions, and that they do: written by wip/xprint.py of this session (the kit's printer with turns, texts by hand among them). -/
import Derived.Test.YtgibokbkobcnaaaProg
import Derived.Test.YtgibokbkobcnaaaAid
import Derived.Test.YtgibokbkobcnaaaFl
import Derived.Test.YtgibokbkobcnaaaLen
import Derived.Laws.Externs
import Derived.Below
import Derived.Deep.Draws
import Derived.Deep.AppendLies
import Derived.Maps.AppendAt
import Derived.OwnWalk
import Derived.Laws.BytesArg
import Derived.Laws.MakeOwn
import Derived.Laws.OwnMore
import Derived.Deep.OwnRows
import Derived.Tactics
import Derived.Lib.ConvBytes
import Derived.Laws.Slices
import Derived.WalkKit
import Derived.KernelRfl
import Derived.RowKit3
import Derived.Deep.LoopGhost
import Derived.Deep.QuietTactic
import Derived.BigQuiet
import Derived.WideLaws
import Derived.Deep.DeepCutAuto
import Derived.Deep.CutBlock
import Derived.Deep.RegionHeld3
import Derived.Laws.Rows
import Derived.Lib.AppendStr
import Derived.ArgAppend
import Derived.Laws.IdiomCopy
import Derived.OrdersHeld
import Derived.Laws.BitsLemmas
import Derived.RowKit
import Derived.Test.YtgibokbkobcnaaaWWords
import Derived.Test.YtgibokbkobcnaaaWLast
import Derived.Test.YtgibokbkobcnaaaWTab
import Derived.Test.YtgibokbkobcnaaaWApart
import Derived.Test.YtgibokbkobcnaaaWFoot
import Derived.Test.YtgibokbkobcnaaaWKept
import Derived.Test.YtgibokbkobcnaaaWShare
import Derived.Test.YtgibokbkobcnaaaWN
import Derived.Test.YtgibokbkobcnaaaWEqStruct
import Derived.Test.YtgibokbkobcnaaaWRepsOne
import Derived.Test.YtgibokbkobcnaaaWGuard
import Derived.Test.YtgibokbkobcnaaaWMore
namespace Go.Proofs.Ytgibokbkobcnaaa.G
open Go.RowKit Go.Proofs.YtgibokbkobcnaaaW.PrintWords Go.Proofs.YtgibokbkobcnaaaW.PrintLast Go.Proofs.YtgibokbkobcnaaaW.PrintMore
attribute [local go_sem] max2_int min2_int max_two min_two max_three min_three max_four min_four   -- for this text's walks alone
set_option linter.unusedVariables false
set_option linter.unusedSimpArgs false



def errW : Option Int → Value
  | none => .nilIface
  | some c => .iface 0 (.int .i64 c)
theorem errW_none : errW none = .nilIface := rfl
theorem errW_some (c : Int) : errW (some c) = .iface 0 (.int .i64 c) := rfl

theorem info23 : (Try.prog.info? 23).map (fun i => (i.zero, i.size, i.bytes)) = some (some (.agg #[(.int .i64 0), (.int .i64 0)]), 2, 16) := by kernel_rfl
-- the values' own types
/-! #### struct type 23 -/
structure S23 where
  f0 : Int
  f1 : Int
def z23 : S23 := ⟨(0 : Int), (0 : Int)⟩
def k23 : Kd S23 := Kd.iso (Kd.pair (Kd.int .i64) (Kd.int .i64)) (fun x : S23 => (x.f0, x.f1))
theorem k23_open {w : World} {x : S23} {cs : List Value} (h : k23.K w x cs) : cs = [.int .i64 x.f0, .int .i64 x.f1] := by
  obtain ⟨_, _, rfl, rfl, rfl⟩ := h
  exact rfl
theorem k23_openM {w : World} {base : Nat} {ok : Nat → Prop} {x : S23} {cs : List Value} (h : k23.M w base ok x cs) : cs = [.int .i64 x.f0, .int .i64 x.f1] := by
  obtain ⟨_, _, rfl, rfl, rfl⟩ := h
  exact rfl
theorem k23_mk (w : World) (x : S23)  : k23.K w x [.int .i64 x.f0, .int .i64 x.f1] := ⟨[.int .i64 x.f0], [.int .i64 x.f1], rfl, rfl, rfl⟩
theorem k23_mkM (w : World) (base : Nat) (ok : Nat → Prop) (x : S23)  : k23.M w base ok x [.int .i64 x.f0, .int .i64 x.f1] := ⟨[.int .i64 x.f0], [.int .i64 x.f1], rfl, rfl, rfl⟩
def rd_T23 (xs : List S23) (i : Int) : S23 := xs.getD i.toNat z23
theorem at_T23 {w : World} {A : Option Addr} {n : Nat} {xs : List S23} (h : Kd.C k23 w A n xs) (i : Int) (h0 : 0 ≤ i) (h1 : i < n) : ∃ ad , A = some ad ∧ w.cell? (ad.add (i.toNat * 2)) = some (.int .i64 (rd_T23 xs i).f0) ∧ w.cell? ⟨(ad.add (i.toNat * 2)).block, (ad.add (i.toNat * 2)).off + 1, none⟩ = some (.int .i64 (rd_T23 xs i).f1) := by
  obtain ⟨ad, c, e, _, hK, hc0⟩ := Kd.C_get h z23 i h0 h1
  have hc : ∀ j u, c[j]? = some u → w.cell? (ad.add (i.toNat * 2 + j)) = some u := hc0
  obtain rfl := k23_open hK
  exact ⟨ad, e, hc 0 _ rfl, by rw [← add_field _ _ 1 (by omega)]; exact hc 1 _ rfl⟩

/-! #### struct type 48 -/
structure S48 where
  f0 : S23
  f1 : S23
  f2 : S23
def z48 : S48 := ⟨z23, z23, z23⟩
def k48 : Kd S48 := Kd.iso (Kd.pair k23 (Kd.pair k23 k23)) (fun x : S48 => (x.f0, x.f1, x.f2))
theorem k48_open {w : World} {x : S48} {cs : List Value} (h : k48.K w x cs) : cs = [.int .i64 x.f0.f0, .int .i64 x.f0.f1, .int .i64 x.f1.f0, .int .i64 x.f1.f1, .int .i64 x.f2.f0, .int .i64 x.f2.f1] := by
  obtain ⟨_, _, rfl, s0, ⟨_, _, rfl, s2, s4⟩⟩ := h
  obtain rfl := k23_open s0
  obtain rfl := k23_open s2
  obtain rfl := k23_open s4
  exact rfl
theorem k48_openM {w : World} {base : Nat} {ok : Nat → Prop} {x : S48} {cs : List Value} (h : k48.M w base ok x cs) : cs = [.int .i64 x.f0.f0, .int .i64 x.f0.f1, .int .i64 x.f1.f0, .int .i64 x.f1.f1, .int .i64 x.f2.f0, .int .i64 x.f2.f1] := by
  obtain ⟨_, _, rfl, s0, ⟨_, _, rfl, s2, s4⟩⟩ := h
  obtain rfl := k23_openM s0
  obtain rfl := k23_openM s2
  obtain rfl := k23_openM s4
  exact rfl
theorem k48_mk (w : World) (x : S48)  : k48.K w x [.int .i64 x.f0.f0, .int .i64 x.f0.f1, .int .i64 x.f1.f0, .int .i64 x.f1.f1, .int .i64 x.f2.f0, .int .i64 x.f2.f1] := ⟨[.int .i64 x.f0.f0, .int .i64 x.f0.f1], [.int .i64 x.f1.f0, .int .i64 x.f1.f1, .int .i64 x.f2.f0, .int .i64 x.f2.f1], rfl, (k23_mk w x.f0 ), ⟨[.int .i64 x.f1.f0, .int .i64 x.f1.f1], [.int .i64 x.f2.f0, .int .i64 x.f2.f1], rfl, (k23_mk w x.f1 ), (k23_mk w x.f2 )⟩⟩
theorem k48_mkM (w : World) (base : Nat) (ok : Nat → Prop) (x : S48)  : k48.M w base ok x [.int .i64 x.f0.f0, .int .i64 x.f0.f1, .int .i64 x.f1.f0, .int .i64 x.f1.f1, .int .i64 x.f2.f0, .int .i64 x.f2.f1] := ⟨[.int .i64 x.f0.f0, .int .i64 x.f0.f1], [.int .i64 x.f1.f0, .int .i64 x.f1.f1, .int .i64 x.f2.f0, .int .i64 x.f2.f1], rfl, (k23_mkM w base ok x.f0 ), ⟨[.int .i64 x.f1.f0, .int .i64 x.f1.f1], [.int .i64 x.f2.f0, .int .i64 x.f2.f1], rfl, (k23_mkM w base ok x.f1 ), (k23_mkM w base ok x.f2 )⟩⟩
def rd_T48 (xs : List S48) (i : Int) : S48 := xs.getD i.toNat z48
theorem at_T48 {w : World} {A : Option Addr} {n : Nat} {xs : List S48} (h : Kd.C k48 w A n xs) (i : Int) (h0 : 0 ≤ i) (h1 : i < n) : ∃ ad , A = some ad ∧ w.cell? (ad.add (i.toNat * 6)) = some (.int .i64 (rd_T48 xs i).f0.f0) ∧ w.cell? ⟨(ad.add (i.toNat * 6)).block, (ad.add (i.toNat * 6)).off + 1, none⟩ = some (.int .i64 (rd_T48 xs i).f0.f1) ∧ w.cell? ⟨(ad.add (i.toNat * 6)).block, (ad.add (i.toNat * 6)).off + 2, none⟩ = some (.int .i64 (rd_T48 xs i).f1.f0) ∧ w.cell? ⟨(ad.add (i.toNat * 6)).block, (ad.add (i.toNat * 6)).off + 3, none⟩ = some (.int .i64 (rd_T48 xs i).f1.f1) ∧ w.cell? ⟨(ad.add (i.toNat * 6)).block, (ad.add (i.toNat * 6)).off + 4, none⟩ = some (.int .i64 (rd_T48 xs i).f2.f0) ∧ w.cell? ⟨(ad.add (i.toNat * 6)).block, (ad.add (i.toNat * 6)).off + 5, none⟩ = some (.int .i64 (rd_T48 xs i).f2.f1) := by
  obtain ⟨ad, c, e, _, hK, hc0⟩ := Kd.C_get h z48 i h0 h1
  have hc : ∀ j u, c[j]? = some u → w.cell? (ad.add (i.toNat * 6 + j)) = some u := hc0
  obtain rfl := k48_open hK
  exact ⟨ad, e, hc 0 _ rfl, by rw [← add_field _ _ 1 (by omega)]; exact hc 1 _ rfl, by rw [← add_field _ _ 2 (by omega)]; exact hc 2 _ rfl, by rw [← add_field _ _ 3 (by omega)]; exact hc 3 _ rfl, by rw [← add_field _ _ 4 (by omega)]; exact hc 4 _ rfl, by rw [← add_field _ _ 5 (by omega)]; exact hc 5 _ rfl⟩

end Go.Proofs.Ytgibokbkobcnaaa.G
