/- Small lemmas on worlds that the printed walks of this session lean on. -/
import Derived.Test.YtgibokbkobcnaaaWWords
import Derived.Test.YtgibokbkobcnaaaWLast
namespace Go.Proofs.Ytgibokbkobcnaaa.Aid
open Go.Proofs.YtgibokbkobcnaaaW.PrintWords
/-- What stands in a cell, stored there again: nothing turns. -/
theorem set_same {W : World} {p : Addr} {v : Value} (h : W.cell? p = some v) : W.setCell p v = W := by
  unfold World.setCell
  cases W with
  | mk heap tape drawn os output =>
    simp only [World.mk.injEq, and_true]
    apply Array.ext
    · simp
    · intro i h1 h2
      rw [Array.getElem_modify]
      split
      · rename_i hi
        subst hi
        cases ho : heap[p.block] with
        | cells c e fr =>
          simp only [World.cell?, Array.getElem?_eq_getElem h2, ho] at h
          have key : (if p.spot.isSome then c else c.setIfInBounds p.off v) = c := by
            rcases hs : p.spot with _ | s
            · rw [hs] at h
              have h' : c[p.off]? = some v := h
              obtain ⟨hlt, he⟩ := Array.getElem?_eq_some_iff.1 h'
              show c.setIfInBounds p.off v = c
              apply Array.ext
              · simp
              · intro i g1 g2
                rw [Array.getElem_setIfInBounds]
                split
                · rename_i e
                  subst e
                  exact he.symm
                · rfl
            · rfl
          exact congrArg (fun z => Obj.cells z e fr) key
        | _ => simp [World.cell?, Array.getElem?_eq_getElem h2, ho] at h
      · rfl
theorem set_more {W W' : World} {p : Addr} {v : Value} (e : W' = W) (h : W.cell? p = some v) : W'.setCell p v = W := by
  rw [e]
  exact set_same h
theorem keep_eq {W W' : World} (e : W' = W) {a : Addr} {v : Value} (h : W.cell? a = some v) : W'.cell? a = some v := e ▸ h
theorem blk_top (W : World) (o : Obj) (g : Nat) (h : g = W.heap.size) : (W.alloc o).heap[g]? = some o := h ▸ blk_new W o
/-- Three elements of two cells each in a variable's block, read as a row. -/
theorem row3 {α : Type} (d : Kd α) (hs : d.sz = 2) {w : World} {g : Nat} {t : TypeId} {v0 v1 v2 v3 v4 v5 : Value} {x y z : α} (h : w.heap[g]? = some (.cells #[v0, v1, v2, v3, v4, v5] t (0, 0)))
    (hx : d.K w x [v0, v1]) (hy : d.K w y [v2, v3]) (hz : d.K w z [v4, v5]) : Kd.C d w (some ⟨g, 0, none⟩) [x, y, z].length [x, y, z] := by
  refine ⟨rfl, by simp, fun _ => ⟨_, rfl, fun j p hp => ?_⟩⟩
  rw [hs]
  have cell : ∀ i : Nat, w.cell? ⟨g, i, none⟩ = #[v0, v1, v2, v3, v4, v5][i]? := fun i => blk_cell h i
  have two : ∀ (a b : Value) (o : Nat), #[v0, v1, v2, v3, v4, v5][o]? = some a → #[v0, v1, v2, v3, v4, v5][o + 1]? = some b → ∀ i u, [a, b][i]? = some u → w.cell? ((⟨g, 0, none⟩ : Addr).add (o + i)) = some u := by
    intro a b o ha hb i u hu
    have e : (⟨g, 0, none⟩ : Addr).add (o + i) = ⟨g, o + i, none⟩ := by
      simp [Addr.add]
      omega
    rw [e, cell]
    match i, hu with
    | 0, hu => simp at hu; subst hu; exact ha
    | 1, hu => simp at hu; subst hu; exact hb
    | i + 2, hu => simp at hu
  match j, hp with
  | 0, hp => simp at hp; subst hp; exact ⟨_, rfl, hx, two _ _ 0 rfl rfl⟩
  | 1, hp => simp at hp; subst hp; exact ⟨_, rfl, hy, two _ _ 2 rfl rfl⟩
  | 2, hp => simp at hp; subst hp; exact ⟨_, rfl, hz, two _ _ 4 rfl rfl⟩
  | j + 3, hp => simp at hp
/-- What is told of the address that a row stands at. -/
theorem re1 {a : Addr} {P : Addr → Prop} (h : ∃ ad, some a = some ad ∧ P ad) : P a := by
  obtain ⟨ad, e, h⟩ := h
  cases e
  exact h
end Go.Proofs.Ytgibokbkobcnaaa.Aid
