/-
  No cell of these rows narrows 'for every input' (looked for: loops, veiled, ifaces, maps, wideKeys, modest, calm, conditions, laid).
  DERIVED. THE GIVEN ROWS OF THIS SEAT. 11 by the template 'for every input the law returns true; each argument reads behind the call as it read before'; 0 by the template 'total and deterministic' (their statements: YtgibokbkobcnaaaTotals.lean).
  GIVEN WITH THE SEED: the statements are not yours to turn. If you find one false, say at which input.
  Laid BY PROGRAM, IN A SANDBOX (cutbox-rows.mjs): the forced cells as the released guide's own fill.sh prints them over the translation db46c825b5298b9b… (all of the seat's roots in one cut). By AI agents, Wed Nov 11 2026. No macro, syntax, notation, axiom, sorry.
-/
import Derived.Test.YtgibokbkobcnaaaChecked
import GoSem.Claim
import GoSem.ClaimJoined
import GoSem.ClaimMapViews
import Derived.JoinedTies
import Derived.KernelRfl
namespace Go.Proofs.Ytgibokbkobcnaaa
/- THE CELL 'sum', in the pinned program and in every row, IS THE sha256 OF THE DUMP (.gsa) THAT YtgibokbkobcnaaaProg.lean LOADS. Nothing in Lean hashes anything: it is a label: what it is worth is what the hold of that sum in a sandbox is worth. -/
noncomputable def Try.pinned : Pinned := { name := "ytgibokbkobcnaaa", sum := "db46c825b5298b9b5e2c6a2bb9f0d5476a52859482f06392bfe9559ec62cb59a", checked := Try.checked }
namespace Rows
def none {H : Type} : Left H := { results := [], args := [] }

/-- 'calamuslaw10.GaussProducts': WHATEVER THE INPUT: true; the input reads as it did. -/
def gaussProductsSpec : ChangeSpec := { name := "gaussProducts", fn := fun _ => fun
  | [d1, d2] => { results := [.lit (.bool true)], args := [d1, d2] }
  | _ => none }
def gaussProductsRow : OpenClaim := { program := "ytgibokbkobcnaaa", sum := "db46c825b5298b9b5e2c6a2bb9f0d5476a52859482f06392bfe9559ec62cb59a", func := "calamus/calamuslaw10.GaussProducts", spec := "gaussProducts", apart := false }
def GaussProductsSaid : Prop := gaussProductsRow.holds Try.pinned (OpenSpec.ofChange gaussProductsSpec)

/-- ITS FALSE NEIGHBOUR: 'it returns false'. Refute it at one input. -/
def gaussProductsWrong : ChangeSpec := { name := "gaussProducts", fn := fun _ => fun
  | [d1, d2] => { results := [.lit (.bool false)], args := [d1, d2] }
  | _ => none }
def GaussProductsWrongFalsely : Prop := gaussProductsRow.holds Try.pinned (OpenSpec.ofChange gaussProductsWrong)

/-- 'calamuslaw10.GaussAreas': WHATEVER THE INPUT: true; the input reads as it did. -/
def gaussAreasSpec : ChangeSpec := { name := "gaussAreas", fn := fun _ => fun
  | [d] => { results := [.lit (.bool true)], args := [d] }
  | _ => none }
def gaussAreasRow : OpenClaim := { program := "ytgibokbkobcnaaa", sum := "db46c825b5298b9b5e2c6a2bb9f0d5476a52859482f06392bfe9559ec62cb59a", func := "calamus/calamuslaw10.GaussAreas", spec := "gaussAreas", apart := false }
def GaussAreasSaid : Prop := gaussAreasRow.holds Try.pinned (OpenSpec.ofChange gaussAreasSpec)

/-- ITS FALSE NEIGHBOUR: 'it returns false'. Refute it at one input. -/
def gaussAreasWrong : ChangeSpec := { name := "gaussAreas", fn := fun _ => fun
  | [d] => { results := [.lit (.bool false)], args := [d] }
  | _ => none }
def GaussAreasWrongFalsely : Prop := gaussAreasRow.holds Try.pinned (OpenSpec.ofChange gaussAreasWrong)

/-- 'calamuslaw10.GaussLaws': WHATEVER THE INPUT: true; the input reads as it did. -/
def gaussLawsSpec : ChangeSpec := { name := "gaussLaws", fn := fun _ => fun
  | [d1, d2] => { results := [.lit (.bool true)], args := [d1, d2] }
  | _ => none }
def gaussLawsRow : OpenClaim := { program := "ytgibokbkobcnaaa", sum := "db46c825b5298b9b5e2c6a2bb9f0d5476a52859482f06392bfe9559ec62cb59a", func := "calamus/calamuslaw10.GaussLaws", spec := "gaussLaws", apart := false }
def GaussLawsSaid : Prop := gaussLawsRow.holds Try.pinned (OpenSpec.ofChange gaussLawsSpec)

/-- ITS FALSE NEIGHBOUR: 'it returns false'. Refute it at one input. -/
def gaussLawsWrong : ChangeSpec := { name := "gaussLaws", fn := fun _ => fun
  | [d1, d2] => { results := [.lit (.bool false)], args := [d1, d2] }
  | _ => none }
def GaussLawsWrongFalsely : Prop := gaussLawsRow.holds Try.pinned (OpenSpec.ofChange gaussLawsWrong)

/-- 'calamuslaw10.GaussWays': WHATEVER THE INPUT: true; the input reads as it did. -/
def gaussWaysSpec : ChangeSpec := { name := "gaussWays", fn := fun _ => fun
  | [d1, d2, d3] => { results := [.lit (.bool true)], args := [d1, d2, d3] }
  | _ => none }
def gaussWaysRow : OpenClaim := { program := "ytgibokbkobcnaaa", sum := "db46c825b5298b9b5e2c6a2bb9f0d5476a52859482f06392bfe9559ec62cb59a", func := "calamus/calamuslaw10.GaussWays", spec := "gaussWays", apart := false }
def GaussWaysSaid : Prop := gaussWaysRow.holds Try.pinned (OpenSpec.ofChange gaussWaysSpec)

/-- ITS FALSE NEIGHBOUR: 'it returns false'. Refute it at one input. -/
def gaussWaysWrong : ChangeSpec := { name := "gaussWays", fn := fun _ => fun
  | [d1, d2, d3] => { results := [.lit (.bool false)], args := [d1, d2, d3] }
  | _ => none }
def GaussWaysWrongFalsely : Prop := gaussWaysRow.holds Try.pinned (OpenSpec.ofChange gaussWaysWrong)

/-- 'calamuslaw10.GaussTurns': WHATEVER THE INPUT: true; the input reads as it did. -/
def gaussTurnsSpec : ChangeSpec := { name := "gaussTurns", fn := fun _ => fun
  | [d1, d2] => { results := [.lit (.bool true)], args := [d1, d2] }
  | _ => none }
def gaussTurnsRow : OpenClaim := { program := "ytgibokbkobcnaaa", sum := "db46c825b5298b9b5e2c6a2bb9f0d5476a52859482f06392bfe9559ec62cb59a", func := "calamus/calamuslaw10.GaussTurns", spec := "gaussTurns", apart := false }
def GaussTurnsSaid : Prop := gaussTurnsRow.holds Try.pinned (OpenSpec.ofChange gaussTurnsSpec)

/-- ITS FALSE NEIGHBOUR: 'it returns false'. Refute it at one input. -/
def gaussTurnsWrong : ChangeSpec := { name := "gaussTurns", fn := fun _ => fun
  | [d1, d2] => { results := [.lit (.bool false)], args := [d1, d2] }
  | _ => none }
def GaussTurnsWrongFalsely : Prop := gaussTurnsRow.holds Try.pinned (OpenSpec.ofChange gaussTurnsWrong)

/-- 'calamuslaw10.GaussMoves': WHATEVER THE INPUT: true; the input reads as it did. -/
def gaussMovesSpec : ChangeSpec := { name := "gaussMoves", fn := fun _ => fun
  | [d1, d2, d3] => { results := [.lit (.bool true)], args := [d1, d2, d3] }
  | _ => none }
def gaussMovesRow : OpenClaim := { program := "ytgibokbkobcnaaa", sum := "db46c825b5298b9b5e2c6a2bb9f0d5476a52859482f06392bfe9559ec62cb59a", func := "calamus/calamuslaw10.GaussMoves", spec := "gaussMoves", apart := false }
def GaussMovesSaid : Prop := gaussMovesRow.holds Try.pinned (OpenSpec.ofChange gaussMovesSpec)

/-- ITS FALSE NEIGHBOUR: 'it returns false'. Refute it at one input. -/
def gaussMovesWrong : ChangeSpec := { name := "gaussMoves", fn := fun _ => fun
  | [d1, d2, d3] => { results := [.lit (.bool false)], args := [d1, d2, d3] }
  | _ => none }
def GaussMovesWrongFalsely : Prop := gaussMovesRow.holds Try.pinned (OpenSpec.ofChange gaussMovesWrong)

/-- 'calamuslaw22.ArcAlong': WHATEVER THE INPUT: true; the input reads as it did. -/
def arcAlongSpec : ChangeSpec := { name := "arcAlong", fn := fun _ => fun
  | [d1, d2] => { results := [.lit (.bool true)], args := [d1, d2] }
  | _ => none }
def arcAlongRow : OpenClaim := { program := "ytgibokbkobcnaaa", sum := "db46c825b5298b9b5e2c6a2bb9f0d5476a52859482f06392bfe9559ec62cb59a", func := "calamus/calamuslaw22.ArcAlong", spec := "arcAlong", inPlace := ["math/bits.Sub64"], unfollowed := true, recurses := true, named := ["math/bits.divideError", "math/bits.overflowError"], apart := false }
def ArcAlongSaid : Prop := arcAlongRow.holds Try.pinned (OpenSpec.ofChange arcAlongSpec)

/-- ITS FALSE NEIGHBOUR: 'it returns false'. Refute it at one input. -/
def arcAlongWrong : ChangeSpec := { name := "arcAlong", fn := fun _ => fun
  | [d1, d2] => { results := [.lit (.bool false)], args := [d1, d2] }
  | _ => none }
def ArcAlongWrongFalsely : Prop := arcAlongRow.holds Try.pinned (OpenSpec.ofChange arcAlongWrong)

/-- 'calamuslaw22.ArcDiscs': WHATEVER THE INPUT: true; the input reads as it did. -/
def arcDiscsSpec : ChangeSpec := { name := "arcDiscs", fn := fun _ => fun
  | [d1, d2] => { results := [.lit (.bool true)], args := [d1, d2] }
  | _ => none }
def arcDiscsRow : OpenClaim := { program := "ytgibokbkobcnaaa", sum := "db46c825b5298b9b5e2c6a2bb9f0d5476a52859482f06392bfe9559ec62cb59a", func := "calamus/calamuslaw22.ArcDiscs", spec := "arcDiscs", inPlace := ["math/bits.Sub64"], unfollowed := true, recurses := true, named := ["math/bits.divideError", "math/bits.overflowError"], apart := false }
def ArcDiscsSaid : Prop := arcDiscsRow.holds Try.pinned (OpenSpec.ofChange arcDiscsSpec)

/-- ITS FALSE NEIGHBOUR: 'it returns false'. Refute it at one input. -/
def arcDiscsWrong : ChangeSpec := { name := "arcDiscs", fn := fun _ => fun
  | [d1, d2] => { results := [.lit (.bool false)], args := [d1, d2] }
  | _ => none }
def ArcDiscsWrongFalsely : Prop := arcDiscsRow.holds Try.pinned (OpenSpec.ofChange arcDiscsWrong)

/-- 'calamuslaw22.ArcLengths': WHATEVER THE INPUT: true; the input reads as it did. -/
def arcLengthsSpec : ChangeSpec := { name := "arcLengths", fn := fun _ => fun
  | [d1, d2, d3] => { results := [.lit (.bool true)], args := [d1, d2, d3] }
  | _ => none }
def arcLengthsRow : OpenClaim := { program := "ytgibokbkobcnaaa", sum := "db46c825b5298b9b5e2c6a2bb9f0d5476a52859482f06392bfe9559ec62cb59a", func := "calamus/calamuslaw22.ArcLengths", spec := "arcLengths", inPlace := ["math/bits.Sub64"], unfollowed := true, recurses := true, named := ["math/bits.divideError", "math/bits.overflowError"], apart := false }
def ArcLengthsSaid : Prop := arcLengthsRow.holds Try.pinned (OpenSpec.ofChange arcLengthsSpec)

/-- ITS FALSE NEIGHBOUR: 'it returns false'. Refute it at one input. -/
def arcLengthsWrong : ChangeSpec := { name := "arcLengths", fn := fun _ => fun
  | [d1, d2, d3] => { results := [.lit (.bool false)], args := [d1, d2, d3] }
  | _ => none }
def ArcLengthsWrongFalsely : Prop := arcLengthsRow.holds Try.pinned (OpenSpec.ofChange arcLengthsWrong)

/-- 'calamuslaw22.ArcNear': WHATEVER THE INPUT: true; the input reads as it did. -/
def arcNearSpec : ChangeSpec := { name := "arcNear", fn := fun _ => fun
  | [d1, d2, d3] => { results := [.lit (.bool true)], args := [d1, d2, d3] }
  | _ => none }
def arcNearRow : OpenClaim := { program := "ytgibokbkobcnaaa", sum := "db46c825b5298b9b5e2c6a2bb9f0d5476a52859482f06392bfe9559ec62cb59a", func := "calamus/calamuslaw22.ArcNear", spec := "arcNear", inPlace := ["math/bits.Sub64"], unfollowed := true, recurses := true, named := ["math/bits.divideError", "math/bits.overflowError"], apart := false }
def ArcNearSaid : Prop := arcNearRow.holds Try.pinned (OpenSpec.ofChange arcNearSpec)

/-- ITS FALSE NEIGHBOUR: 'it returns false'. Refute it at one input. -/
def arcNearWrong : ChangeSpec := { name := "arcNear", fn := fun _ => fun
  | [d1, d2, d3] => { results := [.lit (.bool false)], args := [d1, d2, d3] }
  | _ => none }
def ArcNearWrongFalsely : Prop := arcNearRow.holds Try.pinned (OpenSpec.ofChange arcNearWrong)

/-- 'calamuslaw22.ArcRounds': WHATEVER THE INPUT: true; the input reads as it did. -/
def arcRoundsSpec : ChangeSpec := { name := "arcRounds", fn := fun _ => fun
  | [d1, d2, d3] => { results := [.lit (.bool true)], args := [d1, d2, d3] }
  | _ => none }
def arcRoundsRow : OpenClaim := { program := "ytgibokbkobcnaaa", sum := "db46c825b5298b9b5e2c6a2bb9f0d5476a52859482f06392bfe9559ec62cb59a", func := "calamus/calamuslaw22.ArcRounds", spec := "arcRounds", inPlace := ["math/bits.Sub64"], unfollowed := true, recurses := true, named := ["math/bits.divideError", "math/bits.overflowError"], apart := false }
def ArcRoundsSaid : Prop := arcRoundsRow.holds Try.pinned (OpenSpec.ofChange arcRoundsSpec)

/-- ITS FALSE NEIGHBOUR: 'it returns false'. Refute it at one input. -/
def arcRoundsWrong : ChangeSpec := { name := "arcRounds", fn := fun _ => fun
  | [d1, d2, d3] => { results := [.lit (.bool false)], args := [d1, d2, d3] }
  | _ => none }
def ArcRoundsWrongFalsely : Prop := arcRoundsRow.holds Try.pinned (OpenSpec.ofChange arcRoundsWrong)

/- THE SECOND FORM. 'bulk': how many values and letters a reading holds, each counted each time it is reached (what is shared counts as often as it is met; a slice's spare places count too). A statement '..UptoSaid' is the law's where the arguments, and the package variables that the reading takes, are together of bulk at most 1048576: NARROWER than '..Said'. Prove '..Said' where nothing that the law and all that it calls make is longer than what came in: it says more and counts as full. Else prove '..UptoSaid'. A law counts once. -/
mutual
def uptoBulk {H : Type} : DataW H → Nat
  | .lit (.string bytes) => bytes.length + 1
  | .lit _ => 1
  | .nil => 1
  | .ptr d => uptoBulk d + 1
  | .slice elems spare => uptoBulkAll elems + uptoBulkAll spare + 1
  | .agg parts => uptoBulkAll parts + 1
  | .iface _ d => uptoBulk d + 1
  | .map entries => uptoBulkEntries entries + 1
  | .held _ => 1
def uptoBulkAll {H : Type} : List (DataW H) → Nat
  | [] => 0
  | d :: r => uptoBulk d + uptoBulkAll r
def uptoBulkEntries {H : Type} : List (Lit × DataW H) → Nat
  | [] => 0
  | x :: r => uptoBulkEntry x + uptoBulkEntries r
def uptoBulkEntry {H : Type} : Lit × DataW H → Nat
  | (.string bytes, d) => bytes.length + uptoBulk d + 1
  | (_, d) => uptoBulk d + 1
 end
def uptoSmall : (H : Type) → List (DataW H) → Bool := fun _ ds => decide (uptoBulkAll ds ≤ 1048576)
def OpenSpec.upto (s : _root_.Go.ChangeSpec) : _root_.Go.OpenSpec := { _root_.Go.OpenSpec.ofChange s with cond := some uptoSmall }

/-- 'calamuslaw10.GaussProducts', WHERE WHAT IT READS IS OF BULK AT MOST 1048576: true; the input reads as it did. -/
def gaussProductsUptoRow : OpenClaim := { program := "ytgibokbkobcnaaa", sum := "db46c825b5298b9b5e2c6a2bb9f0d5476a52859482f06392bfe9559ec62cb59a", func := "calamus/calamuslaw10.GaussProducts", spec := "gaussProducts", apart := false, narrowed := true }
def GaussProductsUptoSaid : Prop := gaussProductsUptoRow.holds Try.pinned (OpenSpec.upto gaussProductsSpec)

/-- 'calamuslaw10.GaussAreas', WHERE WHAT IT READS IS OF BULK AT MOST 1048576: true; the input reads as it did. -/
def gaussAreasUptoRow : OpenClaim := { program := "ytgibokbkobcnaaa", sum := "db46c825b5298b9b5e2c6a2bb9f0d5476a52859482f06392bfe9559ec62cb59a", func := "calamus/calamuslaw10.GaussAreas", spec := "gaussAreas", apart := false, narrowed := true }
def GaussAreasUptoSaid : Prop := gaussAreasUptoRow.holds Try.pinned (OpenSpec.upto gaussAreasSpec)

/-- 'calamuslaw10.GaussLaws', WHERE WHAT IT READS IS OF BULK AT MOST 1048576: true; the input reads as it did. -/
def gaussLawsUptoRow : OpenClaim := { program := "ytgibokbkobcnaaa", sum := "db46c825b5298b9b5e2c6a2bb9f0d5476a52859482f06392bfe9559ec62cb59a", func := "calamus/calamuslaw10.GaussLaws", spec := "gaussLaws", apart := false, narrowed := true }
def GaussLawsUptoSaid : Prop := gaussLawsUptoRow.holds Try.pinned (OpenSpec.upto gaussLawsSpec)

/-- 'calamuslaw10.GaussWays', WHERE WHAT IT READS IS OF BULK AT MOST 1048576: true; the input reads as it did. -/
def gaussWaysUptoRow : OpenClaim := { program := "ytgibokbkobcnaaa", sum := "db46c825b5298b9b5e2c6a2bb9f0d5476a52859482f06392bfe9559ec62cb59a", func := "calamus/calamuslaw10.GaussWays", spec := "gaussWays", apart := false, narrowed := true }
def GaussWaysUptoSaid : Prop := gaussWaysUptoRow.holds Try.pinned (OpenSpec.upto gaussWaysSpec)

/-- 'calamuslaw10.GaussTurns', WHERE WHAT IT READS IS OF BULK AT MOST 1048576: true; the input reads as it did. -/
def gaussTurnsUptoRow : OpenClaim := { program := "ytgibokbkobcnaaa", sum := "db46c825b5298b9b5e2c6a2bb9f0d5476a52859482f06392bfe9559ec62cb59a", func := "calamus/calamuslaw10.GaussTurns", spec := "gaussTurns", apart := false, narrowed := true }
def GaussTurnsUptoSaid : Prop := gaussTurnsUptoRow.holds Try.pinned (OpenSpec.upto gaussTurnsSpec)

/-- 'calamuslaw10.GaussMoves', WHERE WHAT IT READS IS OF BULK AT MOST 1048576: true; the input reads as it did. -/
def gaussMovesUptoRow : OpenClaim := { program := "ytgibokbkobcnaaa", sum := "db46c825b5298b9b5e2c6a2bb9f0d5476a52859482f06392bfe9559ec62cb59a", func := "calamus/calamuslaw10.GaussMoves", spec := "gaussMoves", apart := false, narrowed := true }
def GaussMovesUptoSaid : Prop := gaussMovesUptoRow.holds Try.pinned (OpenSpec.upto gaussMovesSpec)

/-- 'calamuslaw22.ArcAlong', WHERE WHAT IT READS IS OF BULK AT MOST 1048576: true; the input reads as it did. -/
def arcAlongUptoRow : OpenClaim := { program := "ytgibokbkobcnaaa", sum := "db46c825b5298b9b5e2c6a2bb9f0d5476a52859482f06392bfe9559ec62cb59a", func := "calamus/calamuslaw22.ArcAlong", spec := "arcAlong", inPlace := ["math/bits.Sub64"], unfollowed := true, recurses := true, named := ["math/bits.divideError", "math/bits.overflowError"], apart := false, narrowed := true }
def ArcAlongUptoSaid : Prop := arcAlongUptoRow.holds Try.pinned (OpenSpec.upto arcAlongSpec)

/-- 'calamuslaw22.ArcDiscs', WHERE WHAT IT READS IS OF BULK AT MOST 1048576: true; the input reads as it did. -/
def arcDiscsUptoRow : OpenClaim := { program := "ytgibokbkobcnaaa", sum := "db46c825b5298b9b5e2c6a2bb9f0d5476a52859482f06392bfe9559ec62cb59a", func := "calamus/calamuslaw22.ArcDiscs", spec := "arcDiscs", inPlace := ["math/bits.Sub64"], unfollowed := true, recurses := true, named := ["math/bits.divideError", "math/bits.overflowError"], apart := false, narrowed := true }
def ArcDiscsUptoSaid : Prop := arcDiscsUptoRow.holds Try.pinned (OpenSpec.upto arcDiscsSpec)

/-- 'calamuslaw22.ArcLengths', WHERE WHAT IT READS IS OF BULK AT MOST 1048576: true; the input reads as it did. -/
def arcLengthsUptoRow : OpenClaim := { program := "ytgibokbkobcnaaa", sum := "db46c825b5298b9b5e2c6a2bb9f0d5476a52859482f06392bfe9559ec62cb59a", func := "calamus/calamuslaw22.ArcLengths", spec := "arcLengths", inPlace := ["math/bits.Sub64"], unfollowed := true, recurses := true, named := ["math/bits.divideError", "math/bits.overflowError"], apart := false, narrowed := true }
def ArcLengthsUptoSaid : Prop := arcLengthsUptoRow.holds Try.pinned (OpenSpec.upto arcLengthsSpec)

/-- 'calamuslaw22.ArcNear', WHERE WHAT IT READS IS OF BULK AT MOST 1048576: true; the input reads as it did. -/
def arcNearUptoRow : OpenClaim := { program := "ytgibokbkobcnaaa", sum := "db46c825b5298b9b5e2c6a2bb9f0d5476a52859482f06392bfe9559ec62cb59a", func := "calamus/calamuslaw22.ArcNear", spec := "arcNear", inPlace := ["math/bits.Sub64"], unfollowed := true, recurses := true, named := ["math/bits.divideError", "math/bits.overflowError"], apart := false, narrowed := true }
def ArcNearUptoSaid : Prop := arcNearUptoRow.holds Try.pinned (OpenSpec.upto arcNearSpec)

/-- 'calamuslaw22.ArcRounds', WHERE WHAT IT READS IS OF BULK AT MOST 1048576: true; the input reads as it did. -/
def arcRoundsUptoRow : OpenClaim := { program := "ytgibokbkobcnaaa", sum := "db46c825b5298b9b5e2c6a2bb9f0d5476a52859482f06392bfe9559ec62cb59a", func := "calamus/calamuslaw22.ArcRounds", spec := "arcRounds", inPlace := ["math/bits.Sub64"], unfollowed := true, recurses := true, named := ["math/bits.divideError", "math/bits.overflowError"], apart := false, narrowed := true }
def ArcRoundsUptoSaid : Prop := arcRoundsUptoRow.holds Try.pinned (OpenSpec.upto arcRoundsSpec)

end Rows
end Go.Proofs.Ytgibokbkobcnaaa
