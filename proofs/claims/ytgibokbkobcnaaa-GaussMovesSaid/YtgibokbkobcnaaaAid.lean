/- Small lemmas on worlds that the printed walks of this session lean on. -/
import Derived.Test.YtgibokbkobcnaaaWWords
import Derived.Test.YtgibokbkobcnaaaWLast
namespace Go.Proofs.Ytgibokbkobcnaaa.Aid
open Go.Proofs.YtgibokbkobcnaaaW.PrintWords
/-- What stands in a cell, stored there again: nothing turns. -/
theorem set_same {W : World} {p : Addr} {v : Value} (h : W.cell? p = some v) : W.setCell p v = W := by
  unfold World.setCell
  cases W with
  | mk heap tape drawn os output =>
    simp only [World.mk.injEq, and_true]
    apply Array.ext
    · simp
    · intro i h1 h2
      rw [Array.getElem_modify]
      split
      · rename_i hi
        subst hi
        cases ho : heap[p.block] with
        | cells c e fr =>
          simp only [World.cell?, Array.getElem?_eq_getElem h2, ho] at h
          have key : (if p.spot.isSome then c else c.setIfInBounds p.off v) = c := by
            rcases hs : p.spot with _ | s
            · rw [hs] at h
              have h' : c[p.off]? = some v := h
              obtain ⟨hlt, he⟩ := Array.getElem?_eq_some_iff.1 h'
              show c.setIfInBounds p.off v = c
              apply Array.ext
              · simp
              · intro i g1 g2
                rw [Array.getElem_setIfInBounds]
                split
                · rename_i e
                  subst e
                  exact he.symm
                · rfl
            · rfl
          exact congrArg (fun z => Obj.cells z e fr) key
        | _ => simp [World.cell?, Array.getElem?_eq_getElem h2, ho] at h
      · rfl
theorem set_more {W W' : World} {p : Addr} {v : Value} (e : W' = W) (h : W.cell? p = some v) : W'.setCell p v = W := by
  rw [e]
  exact set_same h
theorem keep_eq {W W' : World} (e : W' = W) {a : Addr} {v : Value} (h : W.cell? a = some v) : W'.cell? a = some v := e ▸ h
theorem blk_top (W : World) (o : Obj) (g : Nat) (h : g = W.heap.size) : (W.alloc o).heap[g]? = some o := h ▸ blk_new W o
end Go.Proofs.Ytgibokbkobcnaaa.Aid
