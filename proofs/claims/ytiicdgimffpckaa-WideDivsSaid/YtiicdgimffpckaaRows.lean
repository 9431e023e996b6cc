/-
  No cell of these rows narrows 'for every input' (looked for: loops, veiled, ifaces, maps, wideKeys, modest, calm, conditions, laid).
  DERIVED. THE GIVEN ROWS OF THIS SEAT. 12 by the template 'for every input the law returns true; each argument reads behind the call as it read before'; 0 by the template 'total and deterministic' (their statements: YtiicdgimffpckaaTotals.lean).
  GIVEN WITH THE SEED: the statements are not yours to turn. If you find one false, say at which input.
  Laid BY PROGRAM, IN A SANDBOX (cutbox-rows.mjs): the forced cells as the released guide's own fill.sh prints them over the translation 17990466d2c0be3a… (all of the seat's roots in one cut). By AI agents, Wed Nov 11 2026. No macro, syntax, notation, axiom, sorry.
-/
import Derived.Test.YtiicdgimffpckaaChecked
import GoSem.Claim
import GoSem.ClaimJoined
import GoSem.ClaimMapViews
import Derived.JoinedTies
import Derived.KernelRfl
namespace Go.Proofs.Ytiicdgimffpckaa
/- THE CELL 'sum', in the pinned program and in every row, IS THE sha256 OF THE DUMP (.gsa) THAT YtiicdgimffpckaaProg.lean LOADS. Nothing in Lean hashes anything: it is a label: what it is worth is what the hold of that sum in a sandbox is worth. -/
noncomputable def Try.pinned : Pinned := { name := "ytiicdgimffpckaa", sum := "17990466d2c0be3ab424f070f1b9d1b089a8596573855d46c0901f4d7a15c606", checked := Try.checked }
namespace Rows
def none {H : Type} : Left H := { results := [], args := [] }

/-- 'calamuslaw01.WideMuls': WHATEVER THE INPUT: true; the input reads as it did. -/
def wideMulsSpec : ChangeSpec := { name := "wideMuls", fn := fun _ => fun
  | [d1, d2, d3] => { results := [.lit (.bool true)], args := [d1, d2, d3] }
  | _ => none }
def wideMulsRow : OpenClaim := { program := "ytiicdgimffpckaa", sum := "17990466d2c0be3ab424f070f1b9d1b089a8596573855d46c0901f4d7a15c606", func := "calamus/calamuslaw01.WideMuls", spec := "wideMuls", inPlace := ["math/bits.Sub64"], named := ["math/bits.divideError", "math/bits.overflowError"], plainKeys := false, apart := false }
def WideMulsSaid : Prop := wideMulsRow.holds Try.pinned (OpenSpec.ofChange wideMulsSpec)

/-- ITS FALSE NEIGHBOUR: 'it returns false'. Refute it at one input. -/
def wideMulsWrong : ChangeSpec := { name := "wideMuls", fn := fun _ => fun
  | [d1, d2, d3] => { results := [.lit (.bool false)], args := [d1, d2, d3] }
  | _ => none }
def WideMulsWrongFalsely : Prop := wideMulsRow.holds Try.pinned (OpenSpec.ofChange wideMulsWrong)

/-- 'calamuslaw01.WideDivs': WHATEVER THE INPUT: true; the input reads as it did. -/
def wideDivsSpec : ChangeSpec := { name := "wideDivs", fn := fun _ => fun
  | [d1, d2] => { results := [.lit (.bool true)], args := [d1, d2] }
  | _ => none }
def wideDivsRow : OpenClaim := { program := "ytiicdgimffpckaa", sum := "17990466d2c0be3ab424f070f1b9d1b089a8596573855d46c0901f4d7a15c606", func := "calamus/calamuslaw01.WideDivs", spec := "wideDivs", inPlace := ["math/bits.Sub64"], recurses := true, named := ["math/bits.divideError", "math/bits.overflowError"], plainKeys := false, apart := false }
def WideDivsSaid : Prop := wideDivsRow.holds Try.pinned (OpenSpec.ofChange wideDivsSpec)

/-- ITS FALSE NEIGHBOUR: 'it returns false'. Refute it at one input. -/
def wideDivsWrong : ChangeSpec := { name := "wideDivs", fn := fun _ => fun
  | [d1, d2] => { results := [.lit (.bool false)], args := [d1, d2] }
  | _ => none }
def WideDivsWrongFalsely : Prop := wideDivsRow.holds Try.pinned (OpenSpec.ofChange wideDivsWrong)

/-- 'calamuslaw01.WideRoots': WHATEVER THE INPUT: true; the input reads as it did. -/
def wideRootsSpec : ChangeSpec := { name := "wideRoots", fn := fun _ => fun
  | [d] => { results := [.lit (.bool true)], args := [d] }
  | _ => none }
def wideRootsRow : OpenClaim := { program := "ytiicdgimffpckaa", sum := "17990466d2c0be3ab424f070f1b9d1b089a8596573855d46c0901f4d7a15c606", func := "calamus/calamuslaw01.WideRoots", spec := "wideRoots", inPlace := ["math/bits.Sub64"], named := ["math/bits.divideError", "math/bits.overflowError"], plainKeys := false, apart := false }
def WideRootsSaid : Prop := wideRootsRow.holds Try.pinned (OpenSpec.ofChange wideRootsSpec)

/-- ITS FALSE NEIGHBOUR: 'it returns false'. Refute it at one input. -/
def wideRootsWrong : ChangeSpec := { name := "wideRoots", fn := fun _ => fun
  | [d] => { results := [.lit (.bool false)], args := [d] }
  | _ => none }
def WideRootsWrongFalsely : Prop := wideRootsRow.holds Try.pinned (OpenSpec.ofChange wideRootsWrong)

/-- 'calamuslaw01.WideOrder': WHATEVER THE INPUT: true; the input reads as it did. -/
def wideOrderSpec : ChangeSpec := { name := "wideOrder", fn := fun _ => fun
  | [d1, d2] => { results := [.lit (.bool true)], args := [d1, d2] }
  | _ => none }
def wideOrderRow : OpenClaim := { program := "ytiicdgimffpckaa", sum := "17990466d2c0be3ab424f070f1b9d1b089a8596573855d46c0901f4d7a15c606", func := "calamus/calamuslaw01.WideOrder", spec := "wideOrder", inPlace := ["math/bits.Sub64"], named := ["math/bits.divideError", "math/bits.overflowError"], plainKeys := false, apart := false }
def WideOrderSaid : Prop := wideOrderRow.holds Try.pinned (OpenSpec.ofChange wideOrderSpec)

/-- ITS FALSE NEIGHBOUR: 'it returns false'. Refute it at one input. -/
def wideOrderWrong : ChangeSpec := { name := "wideOrder", fn := fun _ => fun
  | [d1, d2] => { results := [.lit (.bool false)], args := [d1, d2] }
  | _ => none }
def WideOrderWrongFalsely : Prop := wideOrderRow.holds Try.pinned (OpenSpec.ofChange wideOrderWrong)

/-- 'calamuslaw01.WideBack': WHATEVER THE INPUT: true; the input reads as it did. -/
def wideBackSpec : ChangeSpec := { name := "wideBack", fn := fun _ => fun
  | [d1, d2] => { results := [.lit (.bool true)], args := [d1, d2] }
  | _ => none }
def wideBackRow : OpenClaim := { program := "ytiicdgimffpckaa", sum := "17990466d2c0be3ab424f070f1b9d1b089a8596573855d46c0901f4d7a15c606", func := "calamus/calamuslaw01.WideBack", spec := "wideBack", inPlace := ["math/bits.Sub64", "math/bits.Add64"], named := ["math/bits.divideError", "math/bits.overflowError"], plainKeys := false, apart := false }
def WideBackSaid : Prop := wideBackRow.holds Try.pinned (OpenSpec.ofChange wideBackSpec)

/-- ITS FALSE NEIGHBOUR: 'it returns false'. Refute it at one input. -/
def wideBackWrong : ChangeSpec := { name := "wideBack", fn := fun _ => fun
  | [d1, d2] => { results := [.lit (.bool false)], args := [d1, d2] }
  | _ => none }
def WideBackWrongFalsely : Prop := wideBackRow.holds Try.pinned (OpenSpec.ofChange wideBackWrong)

/-- 'calamuslaw01.WideSquares': WHATEVER THE INPUT: true; the input reads as it did. -/
def wideSquaresSpec : ChangeSpec := { name := "wideSquares", fn := fun _ => fun
  | [d1, d2] => { results := [.lit (.bool true)], args := [d1, d2] }
  | _ => none }
def wideSquaresRow : OpenClaim := { program := "ytiicdgimffpckaa", sum := "17990466d2c0be3ab424f070f1b9d1b089a8596573855d46c0901f4d7a15c606", func := "calamus/calamuslaw01.WideSquares", spec := "wideSquares", inPlace := ["math/bits.Sub64", "math/bits.Add64"], named := ["math/bits.divideError", "math/bits.overflowError"], plainKeys := false, apart := false }
def WideSquaresSaid : Prop := wideSquaresRow.holds Try.pinned (OpenSpec.ofChange wideSquaresSpec)

/-- ITS FALSE NEIGHBOUR: 'it returns false'. Refute it at one input. -/
def wideSquaresWrong : ChangeSpec := { name := "wideSquares", fn := fun _ => fun
  | [d1, d2] => { results := [.lit (.bool false)], args := [d1, d2] }
  | _ => none }
def WideSquaresWrongFalsely : Prop := wideSquaresRow.holds Try.pinned (OpenSpec.ofChange wideSquaresWrong)

/-- 'calamuslaw01.WideRing': WHATEVER THE INPUT: true; the input reads as it did. -/
def wideRingSpec : ChangeSpec := { name := "wideRing", fn := fun _ => fun
  | [d1, d2, d3] => { results := [.lit (.bool true)], args := [d1, d2, d3] }
  | _ => none }
def wideRingRow : OpenClaim := { program := "ytiicdgimffpckaa", sum := "17990466d2c0be3ab424f070f1b9d1b089a8596573855d46c0901f4d7a15c606", func := "calamus/calamuslaw01.WideRing", spec := "wideRing", inPlace := ["math/bits.Sub64", "math/bits.Add64"], named := ["math/bits.divideError", "math/bits.overflowError"], plainKeys := false, apart := false }
def WideRingSaid : Prop := wideRingRow.holds Try.pinned (OpenSpec.ofChange wideRingSpec)

/-- ITS FALSE NEIGHBOUR: 'it returns false'. Refute it at one input. -/
def wideRingWrong : ChangeSpec := { name := "wideRing", fn := fun _ => fun
  | [d1, d2, d3] => { results := [.lit (.bool false)], args := [d1, d2, d3] }
  | _ => none }
def WideRingWrongFalsely : Prop := wideRingRow.holds Try.pinned (OpenSpec.ofChange wideRingWrong)

/-- 'calamuslaw01.WideAdds': WHATEVER THE INPUT: true; the input reads as it did. -/
def wideAddsSpec : ChangeSpec := { name := "wideAdds", fn := fun _ => fun
  | [d1, d2] => { results := [.lit (.bool true)], args := [d1, d2] }
  | _ => none }
def wideAddsRow : OpenClaim := { program := "ytiicdgimffpckaa", sum := "17990466d2c0be3ab424f070f1b9d1b089a8596573855d46c0901f4d7a15c606", func := "calamus/calamuslaw01.WideAdds", spec := "wideAdds", inPlace := ["math/bits.Sub64", "math/bits.Add64"], named := ["math/bits.divideError", "math/bits.overflowError"], plainKeys := false, apart := false }
def WideAddsSaid : Prop := wideAddsRow.holds Try.pinned (OpenSpec.ofChange wideAddsSpec)

/-- ITS FALSE NEIGHBOUR: 'it returns false'. Refute it at one input. -/
def wideAddsWrong : ChangeSpec := { name := "wideAdds", fn := fun _ => fun
  | [d1, d2] => { results := [.lit (.bool false)], args := [d1, d2] }
  | _ => none }
def WideAddsWrongFalsely : Prop := wideAddsRow.holds Try.pinned (OpenSpec.ofChange wideAddsWrong)

/-- 'calamuslaw15.CrossOn': WHATEVER THE INPUT: true; the input reads as it did. -/
def crossOnSpec : ChangeSpec := { name := "crossOn", fn := fun _ => fun
  | [d1, d2] => { results := [.lit (.bool true)], args := [d1, d2] }
  | _ => none }
def crossOnRow : OpenClaim := { program := "ytiicdgimffpckaa", sum := "17990466d2c0be3ab424f070f1b9d1b089a8596573855d46c0901f4d7a15c606", func := "calamus/calamuslaw15.CrossOn", spec := "crossOn", inPlace := ["math/bits.Add64", "math/bits.Sub64"], named := ["math/bits.divideError", "math/bits.overflowError"], plainKeys := false, apart := false }
def CrossOnSaid : Prop := crossOnRow.holds Try.pinned (OpenSpec.ofChange crossOnSpec)

/-- ITS FALSE NEIGHBOUR: 'it returns false'. Refute it at one input. -/
def crossOnWrong : ChangeSpec := { name := "crossOn", fn := fun _ => fun
  | [d1, d2] => { results := [.lit (.bool false)], args := [d1, d2] }
  | _ => none }
def CrossOnWrongFalsely : Prop := crossOnRow.holds Try.pinned (OpenSpec.ofChange crossOnWrong)

/-- 'calamuslaw15.CrossSame': WHATEVER THE INPUT: true; the input reads as it did. -/
def crossSameSpec : ChangeSpec := { name := "crossSame", fn := fun _ => fun
  | [d] => { results := [.lit (.bool true)], args := [d] }
  | _ => none }
def crossSameRow : OpenClaim := { program := "ytiicdgimffpckaa", sum := "17990466d2c0be3ab424f070f1b9d1b089a8596573855d46c0901f4d7a15c606", func := "calamus/calamuslaw15.CrossSame", spec := "crossSame", inPlace := ["math/bits.Add64", "math/bits.Sub64"], named := ["math/bits.divideError", "math/bits.overflowError"], plainKeys := false, apart := false }
def CrossSameSaid : Prop := crossSameRow.holds Try.pinned (OpenSpec.ofChange crossSameSpec)

/-- ITS FALSE NEIGHBOUR: 'it returns false'. Refute it at one input. -/
def crossSameWrong : ChangeSpec := { name := "crossSame", fn := fun _ => fun
  | [d] => { results := [.lit (.bool false)], args := [d] }
  | _ => none }
def CrossSameWrongFalsely : Prop := crossSameRow.holds Try.pinned (OpenSpec.ofChange crossSameWrong)

/-- 'calamuslaw15.CrossMoves': WHATEVER THE INPUT: true; the input reads as it did. -/
def crossMovesSpec : ChangeSpec := { name := "crossMoves", fn := fun _ => fun
  | [d1, d2] => { results := [.lit (.bool true)], args := [d1, d2] }
  | _ => none }
def crossMovesRow : OpenClaim := { program := "ytiicdgimffpckaa", sum := "17990466d2c0be3ab424f070f1b9d1b089a8596573855d46c0901f4d7a15c606", func := "calamus/calamuslaw15.CrossMoves", spec := "crossMoves", inPlace := ["math/bits.Add64", "math/bits.Sub64"], named := ["math/bits.divideError", "math/bits.overflowError"], plainKeys := false, apart := false }
def CrossMovesSaid : Prop := crossMovesRow.holds Try.pinned (OpenSpec.ofChange crossMovesSpec)

/-- ITS FALSE NEIGHBOUR: 'it returns false'. Refute it at one input. -/
def crossMovesWrong : ChangeSpec := { name := "crossMoves", fn := fun _ => fun
  | [d1, d2] => { results := [.lit (.bool false)], args := [d1, d2] }
  | _ => none }
def CrossMovesWrongFalsely : Prop := crossMovesRow.holds Try.pinned (OpenSpec.ofChange crossMovesWrong)

/-- 'calamuslaw15.CrossIn': WHATEVER THE INPUT: true; the input reads as it did. -/
def crossInSpec : ChangeSpec := { name := "crossIn", fn := fun _ => fun
  | [d] => { results := [.lit (.bool true)], args := [d] }
  | _ => none }
def crossInRow : OpenClaim := { program := "ytiicdgimffpckaa", sum := "17990466d2c0be3ab424f070f1b9d1b089a8596573855d46c0901f4d7a15c606", func := "calamus/calamuslaw15.CrossIn", spec := "crossIn", inPlace := ["math/bits.Add64", "math/bits.Sub64"], named := ["math/bits.divideError", "math/bits.overflowError"], plainKeys := false, apart := false }
def CrossInSaid : Prop := crossInRow.holds Try.pinned (OpenSpec.ofChange crossInSpec)

/-- ITS FALSE NEIGHBOUR: 'it returns false'. Refute it at one input. -/
def crossInWrong : ChangeSpec := { name := "crossIn", fn := fun _ => fun
  | [d] => { results := [.lit (.bool false)], args := [d] }
  | _ => none }
def CrossInWrongFalsely : Prop := crossInRow.holds Try.pinned (OpenSpec.ofChange crossInWrong)

/- THE SECOND FORM. 'bulk': how many values and letters a reading holds, each counted each time it is reached (what is shared counts as often as it is met; a slice's spare places count too). A statement '..UptoSaid' is the law's where the arguments, and the package variables that the reading takes, are together of bulk at most 1048576: NARROWER than '..Said'. Prove '..Said' where nothing that the law and all that it calls make is longer than what came in: it says more and counts as full. Else prove '..UptoSaid'. A law counts once. -/
mutual
def uptoBulk {H : Type} : DataW H → Nat
  | .lit (.string bytes) => bytes.length + 1
  | .lit _ => 1
  | .nil => 1
  | .ptr d => uptoBulk d + 1
  | .slice elems spare => uptoBulkAll elems + uptoBulkAll spare + 1
  | .agg parts => uptoBulkAll parts + 1
  | .iface _ d => uptoBulk d + 1
  | .map entries => uptoBulkEntries entries + 1
  | .held _ => 1
def uptoBulkAll {H : Type} : List (DataW H) → Nat
  | [] => 0
  | d :: r => uptoBulk d + uptoBulkAll r
def uptoBulkEntries {H : Type} : List (Lit × DataW H) → Nat
  | [] => 0
  | x :: r => uptoBulkEntry x + uptoBulkEntries r
def uptoBulkEntry {H : Type} : Lit × DataW H → Nat
  | (.string bytes, d) => bytes.length + uptoBulk d + 1
  | (_, d) => uptoBulk d + 1
 end
def uptoSmall : (H : Type) → List (DataW H) → Bool := fun _ ds => decide (uptoBulkAll ds ≤ 1048576)
def OpenSpec.upto (s : _root_.Go.ChangeSpec) : _root_.Go.OpenSpec := { _root_.Go.OpenSpec.ofChange s with cond := some uptoSmall }

/-- 'calamuslaw01.WideMuls', WHERE WHAT IT READS IS OF BULK AT MOST 1048576: true; the input reads as it did. -/
def wideMulsUptoRow : OpenClaim := { program := "ytiicdgimffpckaa", sum := "17990466d2c0be3ab424f070f1b9d1b089a8596573855d46c0901f4d7a15c606", func := "calamus/calamuslaw01.WideMuls", spec := "wideMuls", inPlace := ["math/bits.Sub64"], named := ["math/bits.divideError", "math/bits.overflowError"], plainKeys := false, apart := false, narrowed := true }
def WideMulsUptoSaid : Prop := wideMulsUptoRow.holds Try.pinned (OpenSpec.upto wideMulsSpec)

/-- 'calamuslaw01.WideDivs', WHERE WHAT IT READS IS OF BULK AT MOST 1048576: true; the input reads as it did. -/
def wideDivsUptoRow : OpenClaim := { program := "ytiicdgimffpckaa", sum := "17990466d2c0be3ab424f070f1b9d1b089a8596573855d46c0901f4d7a15c606", func := "calamus/calamuslaw01.WideDivs", spec := "wideDivs", inPlace := ["math/bits.Sub64"], recurses := true, named := ["math/bits.divideError", "math/bits.overflowError"], plainKeys := false, apart := false, narrowed := true }
def WideDivsUptoSaid : Prop := wideDivsUptoRow.holds Try.pinned (OpenSpec.upto wideDivsSpec)

/-- 'calamuslaw01.WideRoots', WHERE WHAT IT READS IS OF BULK AT MOST 1048576: true; the input reads as it did. -/
def wideRootsUptoRow : OpenClaim := { program := "ytiicdgimffpckaa", sum := "17990466d2c0be3ab424f070f1b9d1b089a8596573855d46c0901f4d7a15c606", func := "calamus/calamuslaw01.WideRoots", spec := "wideRoots", inPlace := ["math/bits.Sub64"], named := ["math/bits.divideError", "math/bits.overflowError"], plainKeys := false, apart := false, narrowed := true }
def WideRootsUptoSaid : Prop := wideRootsUptoRow.holds Try.pinned (OpenSpec.upto wideRootsSpec)

/-- 'calamuslaw01.WideOrder', WHERE WHAT IT READS IS OF BULK AT MOST 1048576: true; the input reads as it did. -/
def wideOrderUptoRow : OpenClaim := { program := "ytiicdgimffpckaa", sum := "17990466d2c0be3ab424f070f1b9d1b089a8596573855d46c0901f4d7a15c606", func := "calamus/calamuslaw01.WideOrder", spec := "wideOrder", inPlace := ["math/bits.Sub64"], named := ["math/bits.divideError", "math/bits.overflowError"], plainKeys := false, apart := false, narrowed := true }
def WideOrderUptoSaid : Prop := wideOrderUptoRow.holds Try.pinned (OpenSpec.upto wideOrderSpec)

/-- 'calamuslaw01.WideBack', WHERE WHAT IT READS IS OF BULK AT MOST 1048576: true; the input reads as it did. -/
def wideBackUptoRow : OpenClaim := { program := "ytiicdgimffpckaa", sum := "17990466d2c0be3ab424f070f1b9d1b089a8596573855d46c0901f4d7a15c606", func := "calamus/calamuslaw01.WideBack", spec := "wideBack", inPlace := ["math/bits.Sub64", "math/bits.Add64"], named := ["math/bits.divideError", "math/bits.overflowError"], plainKeys := false, apart := false, narrowed := true }
def WideBackUptoSaid : Prop := wideBackUptoRow.holds Try.pinned (OpenSpec.upto wideBackSpec)

/-- 'calamuslaw01.WideSquares', WHERE WHAT IT READS IS OF BULK AT MOST 1048576: true; the input reads as it did. -/
def wideSquaresUptoRow : OpenClaim := { program := "ytiicdgimffpckaa", sum := "17990466d2c0be3ab424f070f1b9d1b089a8596573855d46c0901f4d7a15c606", func := "calamus/calamuslaw01.WideSquares", spec := "wideSquares", inPlace := ["math/bits.Sub64", "math/bits.Add64"], named := ["math/bits.divideError", "math/bits.overflowError"], plainKeys := false, apart := false, narrowed := true }
def WideSquaresUptoSaid : Prop := wideSquaresUptoRow.holds Try.pinned (OpenSpec.upto wideSquaresSpec)

/-- 'calamuslaw01.WideRing', WHERE WHAT IT READS IS OF BULK AT MOST 1048576: true; the input reads as it did. -/
def wideRingUptoRow : OpenClaim := { program := "ytiicdgimffpckaa", sum := "17990466d2c0be3ab424f070f1b9d1b089a8596573855d46c0901f4d7a15c606", func := "calamus/calamuslaw01.WideRing", spec := "wideRing", inPlace := ["math/bits.Sub64", "math/bits.Add64"], named := ["math/bits.divideError", "math/bits.overflowError"], plainKeys := false, apart := false, narrowed := true }
def WideRingUptoSaid : Prop := wideRingUptoRow.holds Try.pinned (OpenSpec.upto wideRingSpec)

/-- 'calamuslaw01.WideAdds', WHERE WHAT IT READS IS OF BULK AT MOST 1048576: true; the input reads as it did. -/
def wideAddsUptoRow : OpenClaim := { program := "ytiicdgimffpckaa", sum := "17990466d2c0be3ab424f070f1b9d1b089a8596573855d46c0901f4d7a15c606", func := "calamus/calamuslaw01.WideAdds", spec := "wideAdds", inPlace := ["math/bits.Sub64", "math/bits.Add64"], named := ["math/bits.divideError", "math/bits.overflowError"], plainKeys := false, apart := false, narrowed := true }
def WideAddsUptoSaid : Prop := wideAddsUptoRow.holds Try.pinned (OpenSpec.upto wideAddsSpec)

/-- 'calamuslaw15.CrossOn', WHERE WHAT IT READS IS OF BULK AT MOST 1048576: true; the input reads as it did. -/
def crossOnUptoRow : OpenClaim := { program := "ytiicdgimffpckaa", sum := "17990466d2c0be3ab424f070f1b9d1b089a8596573855d46c0901f4d7a15c606", func := "calamus/calamuslaw15.CrossOn", spec := "crossOn", inPlace := ["math/bits.Add64", "math/bits.Sub64"], named := ["math/bits.divideError", "math/bits.overflowError"], plainKeys := false, apart := false, narrowed := true }
def CrossOnUptoSaid : Prop := crossOnUptoRow.holds Try.pinned (OpenSpec.upto crossOnSpec)

/-- 'calamuslaw15.CrossSame', WHERE WHAT IT READS IS OF BULK AT MOST 1048576: true; the input reads as it did. -/
def crossSameUptoRow : OpenClaim := { program := "ytiicdgimffpckaa", sum := "17990466d2c0be3ab424f070f1b9d1b089a8596573855d46c0901f4d7a15c606", func := "calamus/calamuslaw15.CrossSame", spec := "crossSame", inPlace := ["math/bits.Add64", "math/bits.Sub64"], named := ["math/bits.divideError", "math/bits.overflowError"], plainKeys := false, apart := false, narrowed := true }
def CrossSameUptoSaid : Prop := crossSameUptoRow.holds Try.pinned (OpenSpec.upto crossSameSpec)

/-- 'calamuslaw15.CrossMoves', WHERE WHAT IT READS IS OF BULK AT MOST 1048576: true; the input reads as it did. -/
def crossMovesUptoRow : OpenClaim := { program := "ytiicdgimffpckaa", sum := "17990466d2c0be3ab424f070f1b9d1b089a8596573855d46c0901f4d7a15c606", func := "calamus/calamuslaw15.CrossMoves", spec := "crossMoves", inPlace := ["math/bits.Add64", "math/bits.Sub64"], named := ["math/bits.divideError", "math/bits.overflowError"], plainKeys := false, apart := false, narrowed := true }
def CrossMovesUptoSaid : Prop := crossMovesUptoRow.holds Try.pinned (OpenSpec.upto crossMovesSpec)

/-- 'calamuslaw15.CrossIn', WHERE WHAT IT READS IS OF BULK AT MOST 1048576: true; the input reads as it did. -/
def crossInUptoRow : OpenClaim := { program := "ytiicdgimffpckaa", sum := "17990466d2c0be3ab424f070f1b9d1b089a8596573855d46c0901f4d7a15c606", func := "calamus/calamuslaw15.CrossIn", spec := "crossIn", inPlace := ["math/bits.Add64", "math/bits.Sub64"], named := ["math/bits.divideError", "math/bits.overflowError"], plainKeys := false, apart := false, narrowed := true }
def CrossInUptoSaid : Prop := crossInUptoRow.holds Try.pinned (OpenSpec.upto crossInSpec)

end Rows
end Go.Proofs.Ytiicdgimffpckaa
