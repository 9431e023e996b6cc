/-
  No cell of these rows narrows 'for every input' (looked for: loops, veiled, ifaces, maps, wideKeys, modest, calm, conditions, laid).
  DERIVED. THE GIVEN ROWS OF THIS SEAT. 12 by the template 'for every input the law returns true; each argument reads behind the call as it read before'; 0 by the template 'total and deterministic' (their statements: YtoghjnmcimniaaaTotals.lean).
  GIVEN WITH THE SEED: the statements are not yours to turn. If you find one false, say at which input.
  Laid BY PROGRAM, IN A SANDBOX (cutbox-rows.mjs): the forced cells as the released guide's own fill.sh prints them over the translation 37cf811777861024… (all of the seat's roots in one cut). By AI agents, Wed Nov 11 2026. No macro, syntax, notation, axiom, sorry.
-/
import Derived.Test.YtoghjnmcimniaaaChecked
import GoSem.Claim
import GoSem.ClaimJoined
import GoSem.ClaimMapViews
import Derived.JoinedTies
import Derived.KernelRfl
namespace Go.Proofs.Ytoghjnmcimniaaa
/- THE CELL 'sum', in the pinned program and in every row, IS THE sha256 OF THE DUMP (.gsa) THAT YtoghjnmcimniaaaProg.lean LOADS. Nothing in Lean hashes anything: it is a label: what it is worth is what the hold of that sum in a sandbox is worth. -/
noncomputable def Try.pinned : Pinned := { name := "ytoghjnmcimniaaa", sum := "37cf8117778610243c0e6b9f3b97a3b7286d7d52017ff80a01998eab629d5fbf", checked := Try.checked }
namespace Rows
def none {H : Type} : Left H := { results := [], args := [] }

/-- 'calamuslaw11.OutlineSegs': WHATEVER THE INPUT: true; the input reads as it did. -/
def outlineSegsSpec : ChangeSpec := { name := "outlineSegs", fn := fun _ => fun
  | [d] => { results := [.lit (.bool true)], args := [d] }
  | _ => none }
def outlineSegsRow : OpenClaim := { program := "ytoghjnmcimniaaa", sum := "37cf8117778610243c0e6b9f3b97a3b7286d7d52017ff80a01998eab629d5fbf", func := "calamus/calamuslaw11.OutlineSegs", spec := "outlineSegs", unfollowed := true, recurses := true, apart := false }
def OutlineSegsSaid : Prop := outlineSegsRow.holds Try.pinned (OpenSpec.ofChange outlineSegsSpec)

/-- ITS FALSE NEIGHBOUR: 'it returns false'. Refute it at one input. -/
def outlineSegsWrong : ChangeSpec := { name := "outlineSegs", fn := fun _ => fun
  | [d] => { results := [.lit (.bool false)], args := [d] }
  | _ => none }
def OutlineSegsWrongFalsely : Prop := outlineSegsRow.holds Try.pinned (OpenSpec.ofChange outlineSegsWrong)

/-- 'calamuslaw11.OutlineMids': WHATEVER THE INPUT: true; the input reads as it did. -/
def outlineMidsSpec : ChangeSpec := { name := "outlineMids", fn := fun _ => fun
  | [d1, d2] => { results := [.lit (.bool true)], args := [d1, d2] }
  | _ => none }
def outlineMidsRow : OpenClaim := { program := "ytoghjnmcimniaaa", sum := "37cf8117778610243c0e6b9f3b97a3b7286d7d52017ff80a01998eab629d5fbf", func := "calamus/calamuslaw11.OutlineMids", spec := "outlineMids", unfollowed := true, recurses := true, apart := false }
def OutlineMidsSaid : Prop := outlineMidsRow.holds Try.pinned (OpenSpec.ofChange outlineMidsSpec)

/-- ITS FALSE NEIGHBOUR: 'it returns false'. Refute it at one input. -/
def outlineMidsWrong : ChangeSpec := { name := "outlineMids", fn := fun _ => fun
  | [d1, d2] => { results := [.lit (.bool false)], args := [d1, d2] }
  | _ => none }
def OutlineMidsWrongFalsely : Prop := outlineMidsRow.holds Try.pinned (OpenSpec.ofChange outlineMidsWrong)

/-- 'calamuslaw11.OutlineCloses': WHATEVER THE INPUT: true; the input reads as it did. -/
def outlineClosesSpec : ChangeSpec := { name := "outlineCloses", fn := fun _ => fun
  | [d] => { results := [.lit (.bool true)], args := [d] }
  | _ => none }
def outlineClosesRow : OpenClaim := { program := "ytoghjnmcimniaaa", sum := "37cf8117778610243c0e6b9f3b97a3b7286d7d52017ff80a01998eab629d5fbf", func := "calamus/calamuslaw11.OutlineCloses", spec := "outlineCloses", unfollowed := true, recurses := true, apart := false }
def OutlineClosesSaid : Prop := outlineClosesRow.holds Try.pinned (OpenSpec.ofChange outlineClosesSpec)

/-- ITS FALSE NEIGHBOUR: 'it returns false'. Refute it at one input. -/
def outlineClosesWrong : ChangeSpec := { name := "outlineCloses", fn := fun _ => fun
  | [d] => { results := [.lit (.bool false)], args := [d] }
  | _ => none }
def OutlineClosesWrongFalsely : Prop := outlineClosesRow.holds Try.pinned (OpenSpec.ofChange outlineClosesWrong)

/-- 'calamuslaw11.OutlineBegins': WHATEVER THE INPUT: true; the input reads as it did. -/
def outlineBeginsSpec : ChangeSpec := { name := "outlineBegins", fn := fun _ => fun
  | [d1, d2] => { results := [.lit (.bool true)], args := [d1, d2] }
  | _ => none }
def outlineBeginsRow : OpenClaim := { program := "ytoghjnmcimniaaa", sum := "37cf8117778610243c0e6b9f3b97a3b7286d7d52017ff80a01998eab629d5fbf", func := "calamus/calamuslaw11.OutlineBegins", spec := "outlineBegins", unfollowed := true, recurses := true, apart := false }
def OutlineBeginsSaid : Prop := outlineBeginsRow.holds Try.pinned (OpenSpec.ofChange outlineBeginsSpec)

/-- ITS FALSE NEIGHBOUR: 'it returns false'. Refute it at one input. -/
def outlineBeginsWrong : ChangeSpec := { name := "outlineBegins", fn := fun _ => fun
  | [d1, d2] => { results := [.lit (.bool false)], args := [d1, d2] }
  | _ => none }
def OutlineBeginsWrongFalsely : Prop := outlineBeginsRow.holds Try.pinned (OpenSpec.ofChange outlineBeginsWrong)

/-- 'calamuslaw11.OutlineLifts': WHATEVER THE INPUT: true; the input reads as it did. -/
def outlineLiftsSpec : ChangeSpec := { name := "outlineLifts", fn := fun _ => fun
  | [d] => { results := [.lit (.bool true)], args := [d] }
  | _ => none }
def outlineLiftsRow : OpenClaim := { program := "ytoghjnmcimniaaa", sum := "37cf8117778610243c0e6b9f3b97a3b7286d7d52017ff80a01998eab629d5fbf", func := "calamus/calamuslaw11.OutlineLifts", spec := "outlineLifts", unfollowed := true, recurses := true, apart := false }
def OutlineLiftsSaid : Prop := outlineLiftsRow.holds Try.pinned (OpenSpec.ofChange outlineLiftsSpec)

/-- ITS FALSE NEIGHBOUR: 'it returns false'. Refute it at one input. -/
def outlineLiftsWrong : ChangeSpec := { name := "outlineLifts", fn := fun _ => fun
  | [d] => { results := [.lit (.bool false)], args := [d] }
  | _ => none }
def OutlineLiftsWrongFalsely : Prop := outlineLiftsRow.holds Try.pinned (OpenSpec.ofChange outlineLiftsWrong)

/-- 'calamuslaw11.OutlineFlips': WHATEVER THE INPUT: true; the input reads as it did. -/
def outlineFlipsSpec : ChangeSpec := { name := "outlineFlips", fn := fun _ => fun
  | [d] => { results := [.lit (.bool true)], args := [d] }
  | _ => none }
def outlineFlipsRow : OpenClaim := { program := "ytoghjnmcimniaaa", sum := "37cf8117778610243c0e6b9f3b97a3b7286d7d52017ff80a01998eab629d5fbf", func := "calamus/calamuslaw11.OutlineFlips", spec := "outlineFlips", unfollowed := true, recurses := true, apart := false }
def OutlineFlipsSaid : Prop := outlineFlipsRow.holds Try.pinned (OpenSpec.ofChange outlineFlipsSpec)

/-- ITS FALSE NEIGHBOUR: 'it returns false'. Refute it at one input. -/
def outlineFlipsWrong : ChangeSpec := { name := "outlineFlips", fn := fun _ => fun
  | [d] => { results := [.lit (.bool false)], args := [d] }
  | _ => none }
def OutlineFlipsWrongFalsely : Prop := outlineFlipsRow.holds Try.pinned (OpenSpec.ofChange outlineFlipsWrong)

/-- 'calamuslaw13.QuadAt': WHATEVER THE INPUT: true; the input reads as it did. -/
def quadAtSpec : ChangeSpec := { name := "quadAt", fn := fun _ => fun
  | [d1, d2, d3] => { results := [.lit (.bool true)], args := [d1, d2, d3] }
  | _ => none }
def quadAtRow : OpenClaim := { program := "ytoghjnmcimniaaa", sum := "37cf8117778610243c0e6b9f3b97a3b7286d7d52017ff80a01998eab629d5fbf", func := "calamus/calamuslaw13.QuadAt", spec := "quadAt", unfollowed := true, recurses := true, apart := false }
def QuadAtSaid : Prop := quadAtRow.holds Try.pinned (OpenSpec.ofChange quadAtSpec)

/-- ITS FALSE NEIGHBOUR: 'it returns false'. Refute it at one input. -/
def quadAtWrong : ChangeSpec := { name := "quadAt", fn := fun _ => fun
  | [d1, d2, d3] => { results := [.lit (.bool false)], args := [d1, d2, d3] }
  | _ => none }
def QuadAtWrongFalsely : Prop := quadAtRow.holds Try.pinned (OpenSpec.ofChange quadAtWrong)

/-- 'calamuslaw13.QuadSplits': WHATEVER THE INPUT: true; the input reads as it did. -/
def quadSplitsSpec : ChangeSpec := { name := "quadSplits", fn := fun _ => fun
  | [d] => { results := [.lit (.bool true)], args := [d] }
  | _ => none }
def quadSplitsRow : OpenClaim := { program := "ytoghjnmcimniaaa", sum := "37cf8117778610243c0e6b9f3b97a3b7286d7d52017ff80a01998eab629d5fbf", func := "calamus/calamuslaw13.QuadSplits", spec := "quadSplits", unfollowed := true, recurses := true, apart := false }
def QuadSplitsSaid : Prop := quadSplitsRow.holds Try.pinned (OpenSpec.ofChange quadSplitsSpec)

/-- ITS FALSE NEIGHBOUR: 'it returns false'. Refute it at one input. -/
def quadSplitsWrong : ChangeSpec := { name := "quadSplits", fn := fun _ => fun
  | [d] => { results := [.lit (.bool false)], args := [d] }
  | _ => none }
def QuadSplitsWrongFalsely : Prop := quadSplitsRow.holds Try.pinned (OpenSpec.ofChange quadSplitsWrong)

/-- 'calamuslaw13.QuadHalves': WHATEVER THE INPUT: true; the input reads as it did. -/
def quadHalvesSpec : ChangeSpec := { name := "quadHalves", fn := fun _ => fun
  | [d1, d2, d3] => { results := [.lit (.bool true)], args := [d1, d2, d3] }
  | _ => none }
def quadHalvesRow : OpenClaim := { program := "ytoghjnmcimniaaa", sum := "37cf8117778610243c0e6b9f3b97a3b7286d7d52017ff80a01998eab629d5fbf", func := "calamus/calamuslaw13.QuadHalves", spec := "quadHalves", unfollowed := true, recurses := true, apart := false }
def QuadHalvesSaid : Prop := quadHalvesRow.holds Try.pinned (OpenSpec.ofChange quadHalvesSpec)

/-- ITS FALSE NEIGHBOUR: 'it returns false'. Refute it at one input. -/
def quadHalvesWrong : ChangeSpec := { name := "quadHalves", fn := fun _ => fun
  | [d1, d2, d3] => { results := [.lit (.bool false)], args := [d1, d2, d3] }
  | _ => none }
def QuadHalvesWrongFalsely : Prop := quadHalvesRow.holds Try.pinned (OpenSpec.ofChange quadHalvesWrong)

/-- 'calamuslaw13.QuadNear': WHATEVER THE INPUT: true; the input reads as it did. -/
def quadNearSpec : ChangeSpec := { name := "quadNear", fn := fun _ => fun
  | [d1, d2] => { results := [.lit (.bool true)], args := [d1, d2] }
  | _ => none }
def quadNearRow : OpenClaim := { program := "ytoghjnmcimniaaa", sum := "37cf8117778610243c0e6b9f3b97a3b7286d7d52017ff80a01998eab629d5fbf", func := "calamus/calamuslaw13.QuadNear", spec := "quadNear", unfollowed := true, recurses := true, apart := false }
def QuadNearSaid : Prop := quadNearRow.holds Try.pinned (OpenSpec.ofChange quadNearSpec)

/-- ITS FALSE NEIGHBOUR: 'it returns false'. Refute it at one input. -/
def quadNearWrong : ChangeSpec := { name := "quadNear", fn := fun _ => fun
  | [d1, d2] => { results := [.lit (.bool false)], args := [d1, d2] }
  | _ => none }
def QuadNearWrongFalsely : Prop := quadNearRow.holds Try.pinned (OpenSpec.ofChange quadNearWrong)

/-- 'calamuslaw13.QuadBends': WHATEVER THE INPUT: true; the input reads as it did. -/
def quadBendsSpec : ChangeSpec := { name := "quadBends", fn := fun _ => fun
  | [d] => { results := [.lit (.bool true)], args := [d] }
  | _ => none }
def quadBendsRow : OpenClaim := { program := "ytoghjnmcimniaaa", sum := "37cf8117778610243c0e6b9f3b97a3b7286d7d52017ff80a01998eab629d5fbf", func := "calamus/calamuslaw13.QuadBends", spec := "quadBends", unfollowed := true, recurses := true, apart := false }
def QuadBendsSaid : Prop := quadBendsRow.holds Try.pinned (OpenSpec.ofChange quadBendsSpec)

/-- ITS FALSE NEIGHBOUR: 'it returns false'. Refute it at one input. -/
def quadBendsWrong : ChangeSpec := { name := "quadBends", fn := fun _ => fun
  | [d] => { results := [.lit (.bool false)], args := [d] }
  | _ => none }
def QuadBendsWrongFalsely : Prop := quadBendsRow.holds Try.pinned (OpenSpec.ofChange quadBendsWrong)

/-- 'calamuslaw13.QuadHull': WHATEVER THE INPUT: true; the input reads as it did. -/
def quadHullSpec : ChangeSpec := { name := "quadHull", fn := fun _ => fun
  | [d1, d2, d3] => { results := [.lit (.bool true)], args := [d1, d2, d3] }
  | _ => none }
def quadHullRow : OpenClaim := { program := "ytoghjnmcimniaaa", sum := "37cf8117778610243c0e6b9f3b97a3b7286d7d52017ff80a01998eab629d5fbf", func := "calamus/calamuslaw13.QuadHull", spec := "quadHull", unfollowed := true, recurses := true, apart := false }
def QuadHullSaid : Prop := quadHullRow.holds Try.pinned (OpenSpec.ofChange quadHullSpec)

/-- ITS FALSE NEIGHBOUR: 'it returns false'. Refute it at one input. -/
def quadHullWrong : ChangeSpec := { name := "quadHull", fn := fun _ => fun
  | [d1, d2, d3] => { results := [.lit (.bool false)], args := [d1, d2, d3] }
  | _ => none }
def QuadHullWrongFalsely : Prop := quadHullRow.holds Try.pinned (OpenSpec.ofChange quadHullWrong)

/- THE SECOND FORM. 'bulk': how many values and letters a reading holds, each counted each time it is reached (what is shared counts as often as it is met; a slice's spare places count too). A statement '..UptoSaid' is the law's where the arguments, and the package variables that the reading takes, are together of bulk at most 1048576: NARROWER than '..Said'. Prove '..Said' where nothing that the law and all that it calls make is longer than what came in: it says more and counts as full. Else prove '..UptoSaid'. A law counts once. -/
mutual
def uptoBulk {H : Type} : DataW H → Nat
  | .lit (.string bytes) => bytes.length + 1
  | .lit _ => 1
  | .nil => 1
  | .ptr d => uptoBulk d + 1
  | .slice elems spare => uptoBulkAll elems + uptoBulkAll spare + 1
  | .agg parts => uptoBulkAll parts + 1
  | .iface _ d => uptoBulk d + 1
  | .map entries => uptoBulkEntries entries + 1
  | .held _ => 1
def uptoBulkAll {H : Type} : List (DataW H) → Nat
  | [] => 0
  | d :: r => uptoBulk d + uptoBulkAll r
def uptoBulkEntries {H : Type} : List (Lit × DataW H) → Nat
  | [] => 0
  | x :: r => uptoBulkEntry x + uptoBulkEntries r
def uptoBulkEntry {H : Type} : Lit × DataW H → Nat
  | (.string bytes, d) => bytes.length + uptoBulk d + 1
  | (_, d) => uptoBulk d + 1
 end
def uptoSmall : (H : Type) → List (DataW H) → Bool := fun _ ds => decide (uptoBulkAll ds ≤ 1048576)
def OpenSpec.upto (s : _root_.Go.ChangeSpec) : _root_.Go.OpenSpec := { _root_.Go.OpenSpec.ofChange s with cond := some uptoSmall }

/-- 'calamuslaw11.OutlineSegs', WHERE WHAT IT READS IS OF BULK AT MOST 1048576: true; the input reads as it did. -/
def outlineSegsUptoRow : OpenClaim := { program := "ytoghjnmcimniaaa", sum := "37cf8117778610243c0e6b9f3b97a3b7286d7d52017ff80a01998eab629d5fbf", func := "calamus/calamuslaw11.OutlineSegs", spec := "outlineSegs", unfollowed := true, recurses := true, apart := false, narrowed := true }
def OutlineSegsUptoSaid : Prop := outlineSegsUptoRow.holds Try.pinned (OpenSpec.upto outlineSegsSpec)

/-- 'calamuslaw11.OutlineMids', WHERE WHAT IT READS IS OF BULK AT MOST 1048576: true; the input reads as it did. -/
def outlineMidsUptoRow : OpenClaim := { program := "ytoghjnmcimniaaa", sum := "37cf8117778610243c0e6b9f3b97a3b7286d7d52017ff80a01998eab629d5fbf", func := "calamus/calamuslaw11.OutlineMids", spec := "outlineMids", unfollowed := true, recurses := true, apart := false, narrowed := true }
def OutlineMidsUptoSaid : Prop := outlineMidsUptoRow.holds Try.pinned (OpenSpec.upto outlineMidsSpec)

/-- 'calamuslaw11.OutlineCloses', WHERE WHAT IT READS IS OF BULK AT MOST 1048576: true; the input reads as it did. -/
def outlineClosesUptoRow : OpenClaim := { program := "ytoghjnmcimniaaa", sum := "37cf8117778610243c0e6b9f3b97a3b7286d7d52017ff80a01998eab629d5fbf", func := "calamus/calamuslaw11.OutlineCloses", spec := "outlineCloses", unfollowed := true, recurses := true, apart := false, narrowed := true }
def OutlineClosesUptoSaid : Prop := outlineClosesUptoRow.holds Try.pinned (OpenSpec.upto outlineClosesSpec)

/-- 'calamuslaw11.OutlineBegins', WHERE WHAT IT READS IS OF BULK AT MOST 1048576: true; the input reads as it did. -/
def outlineBeginsUptoRow : OpenClaim := { program := "ytoghjnmcimniaaa", sum := "37cf8117778610243c0e6b9f3b97a3b7286d7d52017ff80a01998eab629d5fbf", func := "calamus/calamuslaw11.OutlineBegins", spec := "outlineBegins", unfollowed := true, recurses := true, apart := false, narrowed := true }
def OutlineBeginsUptoSaid : Prop := outlineBeginsUptoRow.holds Try.pinned (OpenSpec.upto outlineBeginsSpec)

/-- 'calamuslaw11.OutlineLifts', WHERE WHAT IT READS IS OF BULK AT MOST 1048576: true; the input reads as it did. -/
def outlineLiftsUptoRow : OpenClaim := { program := "ytoghjnmcimniaaa", sum := "37cf8117778610243c0e6b9f3b97a3b7286d7d52017ff80a01998eab629d5fbf", func := "calamus/calamuslaw11.OutlineLifts", spec := "outlineLifts", unfollowed := true, recurses := true, apart := false, narrowed := true }
def OutlineLiftsUptoSaid : Prop := outlineLiftsUptoRow.holds Try.pinned (OpenSpec.upto outlineLiftsSpec)

/-- 'calamuslaw11.OutlineFlips', WHERE WHAT IT READS IS OF BULK AT MOST 1048576: true; the input reads as it did. -/
def outlineFlipsUptoRow : OpenClaim := { program := "ytoghjnmcimniaaa", sum := "37cf8117778610243c0e6b9f3b97a3b7286d7d52017ff80a01998eab629d5fbf", func := "calamus/calamuslaw11.OutlineFlips", spec := "outlineFlips", unfollowed := true, recurses := true, apart := false, narrowed := true }
def OutlineFlipsUptoSaid : Prop := outlineFlipsUptoRow.holds Try.pinned (OpenSpec.upto outlineFlipsSpec)

/-- 'calamuslaw13.QuadAt', WHERE WHAT IT READS IS OF BULK AT MOST 1048576: true; the input reads as it did. -/
def quadAtUptoRow : OpenClaim := { program := "ytoghjnmcimniaaa", sum := "37cf8117778610243c0e6b9f3b97a3b7286d7d52017ff80a01998eab629d5fbf", func := "calamus/calamuslaw13.QuadAt", spec := "quadAt", unfollowed := true, recurses := true, apart := false, narrowed := true }
def QuadAtUptoSaid : Prop := quadAtUptoRow.holds Try.pinned (OpenSpec.upto quadAtSpec)

/-- 'calamuslaw13.QuadSplits', WHERE WHAT IT READS IS OF BULK AT MOST 1048576: true; the input reads as it did. -/
def quadSplitsUptoRow : OpenClaim := { program := "ytoghjnmcimniaaa", sum := "37cf8117778610243c0e6b9f3b97a3b7286d7d52017ff80a01998eab629d5fbf", func := "calamus/calamuslaw13.QuadSplits", spec := "quadSplits", unfollowed := true, recurses := true, apart := false, narrowed := true }
def QuadSplitsUptoSaid : Prop := quadSplitsUptoRow.holds Try.pinned (OpenSpec.upto quadSplitsSpec)

/-- 'calamuslaw13.QuadHalves', WHERE WHAT IT READS IS OF BULK AT MOST 1048576: true; the input reads as it did. -/
def quadHalvesUptoRow : OpenClaim := { program := "ytoghjnmcimniaaa", sum := "37cf8117778610243c0e6b9f3b97a3b7286d7d52017ff80a01998eab629d5fbf", func := "calamus/calamuslaw13.QuadHalves", spec := "quadHalves", unfollowed := true, recurses := true, apart := false, narrowed := true }
def QuadHalvesUptoSaid : Prop := quadHalvesUptoRow.holds Try.pinned (OpenSpec.upto quadHalvesSpec)

/-- 'calamuslaw13.QuadNear', WHERE WHAT IT READS IS OF BULK AT MOST 1048576: true; the input reads as it did. -/
def quadNearUptoRow : OpenClaim := { program := "ytoghjnmcimniaaa", sum := "37cf8117778610243c0e6b9f3b97a3b7286d7d52017ff80a01998eab629d5fbf", func := "calamus/calamuslaw13.QuadNear", spec := "quadNear", unfollowed := true, recurses := true, apart := false, narrowed := true }
def QuadNearUptoSaid : Prop := quadNearUptoRow.holds Try.pinned (OpenSpec.upto quadNearSpec)

/-- 'calamuslaw13.QuadBends', WHERE WHAT IT READS IS OF BULK AT MOST 1048576: true; the input reads as it did. -/
def quadBendsUptoRow : OpenClaim := { program := "ytoghjnmcimniaaa", sum := "37cf8117778610243c0e6b9f3b97a3b7286d7d52017ff80a01998eab629d5fbf", func := "calamus/calamuslaw13.QuadBends", spec := "quadBends", unfollowed := true, recurses := true, apart := false, narrowed := true }
def QuadBendsUptoSaid : Prop := quadBendsUptoRow.holds Try.pinned (OpenSpec.upto quadBendsSpec)

/-- 'calamuslaw13.QuadHull', WHERE WHAT IT READS IS OF BULK AT MOST 1048576: true; the input reads as it did. -/
def quadHullUptoRow : OpenClaim := { program := "ytoghjnmcimniaaa", sum := "37cf8117778610243c0e6b9f3b97a3b7286d7d52017ff80a01998eab629d5fbf", func := "calamus/calamuslaw13.QuadHull", spec := "quadHull", unfollowed := true, recurses := true, apart := false, narrowed := true }
def QuadHullUptoSaid : Prop := quadHullUptoRow.holds Try.pinned (OpenSpec.upto quadHullSpec)

end Rows
end Go.Proofs.Ytoghjnmcimniaaa
