/- What Go functions answer, as Lean functions, and that they do: written by wip/xprint.py of this session (the kit's printer with turns, texts by hand among them). -/
import Derived.Test.YtoghjnmcimniaaaO0
import Derived.Test.YtoghjnmcimniaaaOe0
import Derived.Test.YtoghjnmcimniaaaOd0
import Derived.Test.YtoghjnmcimniaaaOf20
import Derived.Test.YtoghjnmcimniaaaOf46
import Derived.Test.YtoghjnmcimniaaaOf47
namespace Go.Proofs.Ytoghjnmcimniaaa.O
open Go.RowKit Go.Proofs.YtoghjnmcimniaaaW.PrintWords Go.Proofs.YtoghjnmcimniaaaW.PrintLast Go.Proofs.YtoghjnmcimniaaaW.PrintMore
attribute [local go_sem] max2_int min2_int max_two min_two max_three min_three max_four min_four   -- for this text's walks alone
set_option linter.unusedVariables false
set_option linter.unusedSimpArgs false

/-! ### outline_Segs: function 16 -/
-- CALLS
attribute [local go_sem high] eqA33
def outline_Segs.Told (W0 w : World) (gF gC gK gO : Nat) (v : Value) (x y kx ky : Int) (xs : List S37) (w' : World) : Prop :=
  w'.heap[gF]? = some (.cells #[.int .i64 x, .int .i64 y] 33 (0, 0)) ∧ w'.heap[gC]? = some (.cells #[.bool false] 4 (0, 0)) ∧ w'.heap[gK]? = some (.cells #[.int .i64 kx, .int .i64 ky] 33 (0, 0)) ∧
  ∃ v', w'.heap[gO]? = some (.cells #[v'] 25 (0, 0)) ∧ Kd.R k37 37 w' W0.heap.size (fun _ => True) v' xs ∧ Below W0.heap.size W0 w' ∧
    ∀ (g : Nat) (cs : Array Value) (t : TypeId), w.heap[g]? = some (.cells cs t (0, 0)) → g ≠ gF → g ≠ gC → g ≠ gO → t ≠ 37 → w'.heap[g]? = some (.cells cs t (0, 0))
/-- What stands behind the append: the boxes as they were. -/
theorem outline_Segs.after {w w1 : World} {o2 : Obj} {base : Nat} {v a0 a1 : Value} {xs : List S37}
    (hg : ((w.alloc (.cells #[a0, a1] 33 (0, 0))).alloc o2).grownBy w1 v.ownBlock) (hR : Kd.R k37 37 w base (fun _ => True) v xs) :
    w1.heap[w.heap.size]? = some (.cells #[a0, a1] 33 (0, 0)) ∧
    ∀ (g : Nat) (cs : Array Value) (t : TypeId), w.heap[g]? = some (.cells cs t (0, 0)) → t ≠ 37 → w1.heap[g]? = some (.cells cs t (0, 0)) := by
  have hRW : Kd.R k37 37 ((w.alloc (.cells #[a0, a1] 33 (0, 0))).alloc o2) base (fun _ => True) v xs := Kd.R_below hR (below_alloc (below_alloc (Below.refl _ _) _) _)
  have key : ∀ (g : Nat) (cs : Array Value) (t : TypeId), ((w.alloc (.cells #[a0, a1] 33 (0, 0))).alloc o2).heap[g]? = some (.cells cs t (0, 0)) → t ≠ 37 → w1.heap[g]? = some (.cells cs t (0, 0)) :=
    fun g cs t h ht => blk_grown h hg (Kd.R_ne hRW h (fun e => ht e.symm))
  exact ⟨key _ _ _ (blk_alloc (blk_new _ _) _) (by decide), fun g cs t h ht => key g cs t (blk_alloc (blk_alloc h _) _) ht⟩
theorem outline_Segs.Told.alloc {W0 w w' : World} {gF gC gK gO : Nat} {v : Value} {x y kx ky : Int} {xs : List S37} (h : outline_Segs.Told W0 w gF gC gK gO v x y kx ky xs w') (o : Obj) : outline_Segs.Told W0 w gF gC gK gO v x y kx ky xs (w'.alloc o) := by
  obtain ⟨h1, h2, h3, v', h4, h5, h6, h7⟩ := h
  exact ⟨blk_alloc h1 _, blk_alloc h2 _, blk_alloc h3 _, v', blk_alloc h4 _, Kd.R_below h5 (below_alloc (Below.refl _ _) _), h6.alloc h6.size _, fun g cs t a b c d e => blk_alloc (h7 g cs t a b c d e) _⟩
/-- The three stores at the closure's end. -/
theorem outline_Segs.told_of {W0 w w1 : World} {gF gC gK gO : Nat} {v v1 : Value} {x y kx ky : Int} {f0 f1 c0 : Value} {xs : List S37}
    (hF : w1.heap[gF]? = some (.cells #[f0, f1] 33 (0, 0))) (hC : w1.heap[gC]? = some (.cells #[c0] 4 (0, 0)))
    (hK : w1.heap[gK]? = some (.cells #[.int .i64 kx, .int .i64 ky] 33 (0, 0))) (hO : w1.heap[gO]? = some (.cells #[v1] 25 (0, 0)))
    (hR : Kd.R k37 37 w1 W0.heap.size (fun _ => True) v1 xs) (hB : Below W0.heap.size W0 w1) (hbF : W0.heap.size ≤ gF) (hbC : W0.heap.size ≤ gC) (hFK : gF ≠ gK)
    (hfr : ∀ (g : Nat) (cs : Array Value) (t : TypeId), w.heap[g]? = some (.cells cs t (0, 0)) → g ≠ gF → g ≠ gC → g ≠ gO → t ≠ 37 → w1.heap[g]? = some (.cells cs t (0, 0))) :
    outline_Segs.Told W0 w gF gC gK gO v x y kx ky xs (((w1.setCell ⟨gF, 0, none⟩ (.int .i64 x)).setCell ⟨gF, 1, none⟩ (.int .i64 y)).setCell ⟨gC, 0, none⟩ (.bool false)) := by
  have hFC : gF ≠ gC := blk_ne hF hC (by decide)
  have hFO : gF ≠ gO := blk_ne hF hO (by decide)
  have hCO : gC ≠ gO := blk_ne hC hO (by decide)
  have hKC : gK ≠ gC := blk_ne hK hC (by decide)
  have a1 := blk_put (cs' := #[.int .i64 x, f1]) hF 0 (.int .i64 x) rfl
  have a2 := blk_put (cs' := #[.int .i64 x, .int .i64 y]) a1 1 (.int .i64 y) rfl
  have c2 := blk_far (p := ⟨gF, 1, none⟩) (blk_far (p := ⟨gF, 0, none⟩) hC hFC.symm (.int .i64 x)) hFC.symm (.int .i64 y)
  have r1 := Kd.R_set hR hF (by decide) 0 (.int .i64 x)
  have r2 := Kd.R_set r1 a1 (by decide) 1 (.int .i64 y)
  refine ⟨blk_far (p := ⟨gC, 0, none⟩) a2 hFC _, blk_put (cs' := #[.bool false]) c2 0 _ rfl, blk_far (p := ⟨gC, 0, none⟩) (blk_far (p := ⟨gF, 1, none⟩) (blk_far (p := ⟨gF, 0, none⟩) hK hFK.symm _) hFK.symm _) hKC _, v1, ?_, Kd.R_set r2 c2 (by decide) 0 _, below_set (below_set (below_set hB hbF) hbF) hbC, ?_⟩
  · exact blk_far (p := ⟨gC, 0, none⟩) (blk_far (p := ⟨gF, 1, none⟩) (blk_far (p := ⟨gF, 0, none⟩) hO hFO.symm _) hFO.symm _) hCO.symm _
  · intro g cs t a b c d e
    exact blk_far (p := ⟨gC, 0, none⟩) (blk_far (p := ⟨gF, 1, none⟩) (blk_far (p := ⟨gF, 0, none⟩) (hfr g cs t a b c d e) b _) b _) c _
set_option maxHeartbeats 2000000 in
theorem outline_Segs.to_s1 (fx fy x y kx ky : Int) (v : Value) (W0 w : World) (gF gC gK gO : Nat) (xs : List S37)
    (hF : w.heap[gF]? = some (.cells #[.int .i64 fx, .int .i64 fy] 33 (0, 0))) (hC : w.heap[gC]? = some (.cells #[.bool false] 4 (0, 0)))
    (hK : w.heap[gK]? = some (.cells #[.int .i64 kx, .int .i64 ky] 33 (0, 0))) (hO : w.heap[gO]? = some (.cells #[v] 25 (0, 0)))
    (hR : Kd.R k37 37 w W0.heap.size (fun _ => True) v xs) (hB : Below W0.heap.size W0 w) (hbF : W0.heap.size ≤ gF) (hbC : W0.heap.size ≤ gC) (hbO : W0.heap.size ≤ gO) (hFK : gF ≠ gK)
    (q1 : (!fx == x || !fy == y) = true) (hl : xs.length < 2513169434916) :
    Calls Try.prog 48 #[.agg #[.int .i64 x, .int .i64 y], .pointer (some ⟨gF, 0, none⟩), .pointer (some ⟨gC, 0, none⟩), .pointer (some ⟨gK, 0, none⟩), .pointer (some ⟨gO, 0, none⟩)] w fun e w' => e = .returned (.tuple #[]) ∧ outline_Segs.Told W0 w gF gC gK gO v x y kx ky (xs ++ [(⟨⟨fx, fy⟩, ⟨0, 0⟩, ⟨x, y⟩, false⟩ : S37)]) w' := by
  have hu33 := Try.underlying33
  have hu37 := Try.underlying37
  have hF0 : w.cell? ⟨gF, 0, none⟩ = some (.int .i64 fx) := (blk_cell hF 0).trans rfl
  have hF1 : w.cell? ⟨gF, 1, none⟩ = some (.int .i64 fy) := (blk_cell hF 1).trans rfl
  have hC0 : w.cell? ⟨gC, 0, none⟩ = some (.bool false) := (blk_cell hC 0).trans rfl
  have hK0 : w.cell? ⟨gK, 0, none⟩ = some (.int .i64 kx) := (blk_cell hK 0).trans rfl
  have hK1 : w.cell? ⟨gK, 1, none⟩ = some (.int .i64 ky) := (blk_cell hK 1).trans rfl
  have hO0 : w.cell? ⟨gO, 0, none⟩ = some v := (blk_cell hO 0).trans rfl
  have lF := blk_lt hF
  have lC := blk_lt hC
  have lK := blk_lt hK
  have lO := blk_lt hO
  have eF0 := blk_frozen hF 0
  have eF1 := blk_frozen hF 1
  have eC0 := blk_frozen hC 0
  have eO0 := blk_frozen hO 0
  have hFC := blk_ne hF hC (by decide)
  have hFO := blk_ne hF hO (by decide)
  have hCO := blk_ne hC hO (by decide)
  have hKC := blk_ne hK hC (by decide)
  have hKO := blk_ne hK hO (by decide)
  have HF := Aside0.mk hF
  have HC := Aside0.mk hC
  have HK := Aside0.mk hK
  have HO := Aside0.mk hO
  have HR := Aside0.mk hR
  have HB := Aside0.mk hB
  have hW0 := hB.size
  clear hF hC hK hO hR hB
  go_enter Try.func48, Try.ntmps48
  go_wp2_with ((with_reducible refine gate_builtin (b := .append) (xs := #[.tmp 30, .tmp 32]) rfl ?_); at_builtin; refine Kd.R_append k37 (w0 := W0) W0.heap.size rfl (.tmp 30) (.tmp 32) 25 37 (.agg #[.int .i64 0, .int .i64 0, .int .i64 0, .int .i64 0, .int .i64 0, .int .i64 0, .bool false]) 56 rfl Try.underlying25 info37 rfl (by decide) (by omega) v xs (⟨⟨fx, fy⟩, ⟨0, 0⟩, ⟨x, y⟩, false⟩ : S37) [.int .i64 fx, .int .i64 fy, .int .i64 0, .int .i64 0, .int .i64 x, .int .i64 y, .bool false] (fun _ => True) (fun _ => False) rfl (by first | (go_simp; done) | (go_simp; rfl)) ?aP (fun _ hk => hk.elim) ?aF ?aO ?aB ?aS ?aL ?_; (case aP => exact k37_mkM _ _ _ (⟨⟨fx, fy⟩, ⟨0, 0⟩, ⟨x, y⟩, false⟩ : S37)); (case aF => exact (fun _ _ => trivial)); (case aO => exact Kd.R_below HR.out (below_alloc (below_alloc (Below.refl _ _) _) _)); (case aB => exact below_then HB.out hW0 (below_alloc (below_alloc (Below.refl _ _) _) _)); (case aS => exact Nat.le_trans hW0 (below_alloc (below_alloc (Below.refl _ _) _) _ : Below w.heap.size w _).size); (case aL => omega); intro v1 w1 ho hb hg hat; obtain ⟨A1, c1, rfl⟩ := Kd.R_slice ho; have HO1 := Aside0.mk ho; have HB1 := Aside0.mk hb; have HG1 := Aside0.mk hg; have HX := outline_Segs.after hg HR.out; have HP := Aside0.mk HX.1; have HE := Aside0.mk HX.2; clear ho hb hg hat HX hF0 hF1 hC0 hK0 hK1 hO0 eF0 eF1 eC0 eO0; have jP0 : w1.cell? ⟨w.heap.size, 0, none⟩ = some (.int .i64 x) := (blk_cell HP.out 0).trans rfl; have jP1 : w1.cell? ⟨w.heap.size, 1, none⟩ = some (.int .i64 y) := (blk_cell HP.out 1).trans rfl; have jO : w1.cell? ⟨gO, 0, none⟩ = some v := (blk_cell (HE.out _ _ _ HO.out (by decide)) 0).trans rfl; have jF0 : w1.cell? ⟨gF, 0, none⟩ = some (.int .i64 fx) := (blk_cell (HE.out _ _ _ HF.out (by decide)) 0).trans rfl; have jF1 : w1.cell? ⟨gF, 1, none⟩ = some (.int .i64 fy) := (blk_cell (HE.out _ _ _ HF.out (by decide)) 1).trans rfl; have jC : w1.cell? ⟨gC, 0, none⟩ = some (.bool false) := (blk_cell (HE.out _ _ _ HC.out (by decide)) 0).trans rfl; have eF0 := blk_frozen (HE.out _ _ _ HF.out (by decide)) 0; have eF1 := blk_frozen (HE.out _ _ _ HF.out (by decide)) 1; have eC0 := blk_frozen (HE.out _ _ _ HC.out (by decide)) 0; have eO0 := blk_frozen (HE.out _ _ _ HO.out (by decide)) 0; have pF : w.heap.size ≠ gF := Nat.ne_of_gt lF; have pC : w.heap.size ≠ gC := Nat.ne_of_gt lC; have pO : w.heap.size ≠ gO := Nat.ne_of_gt lO)
  go_end0
  have f1 := HE.out _ _ _ HF.out (by decide)
  have f2 := HE.out _ _ _ HC.out (by decide)
  have f3 := HE.out _ _ _ HK.out (by decide)
  have f4 := HE.out _ _ _ HO.out (by decide)
  have p4 := blk_put (cs' := #[.slice A1 (xs.length + 1) c1]) f4 0 (.slice A1 (xs.length + 1) c1) rfl
  refine ⟨rfl, outline_Segs.told_of (blk_far (p := ⟨gO, 0, none⟩) f1 hFO _) (blk_far (p := ⟨gO, 0, none⟩) f2 hCO _) (blk_far (p := ⟨gO, 0, none⟩) f3 hKO _) p4 (by have z := Kd.R_set HO1.out f4 (by decide) 0 (.slice A1 (xs.length + 1) c1); simpa using z) (below_set HB1.out hbO) hbF hbC hFK ?_⟩
  exact fun g cs t a b c d e => blk_far (p := ⟨gO, 0, none⟩) (HE.out g cs t a e) d _
set_option maxHeartbeats 2000000 in
theorem outline_Segs.to_s2 (fx fy x y kx ky : Int) (v : Value) (W0 w : World) (gF gC gK gO : Nat) (xs : List S37)
    (hF : w.heap[gF]? = some (.cells #[.int .i64 fx, .int .i64 fy] 33 (0, 0))) (hC : w.heap[gC]? = some (.cells #[.bool false] 4 (0, 0)))
    (hK : w.heap[gK]? = some (.cells #[.int .i64 kx, .int .i64 ky] 33 (0, 0))) (hO : w.heap[gO]? = some (.cells #[v] 25 (0, 0)))
    (hR : Kd.R k37 37 w W0.heap.size (fun _ => True) v xs) (hB : Below W0.heap.size W0 w) (hbF : W0.heap.size ≤ gF) (hbC : W0.heap.size ≤ gC) (hbO : W0.heap.size ≤ gO) (hFK : gF ≠ gK)
    (q1 : (!fx == x || !fy == y) = false) :
    Calls Try.prog 48 #[.agg #[.int .i64 x, .int .i64 y], .pointer (some ⟨gF, 0, none⟩), .pointer (some ⟨gC, 0, none⟩), .pointer (some ⟨gK, 0, none⟩), .pointer (some ⟨gO, 0, none⟩)] w fun e w' => e = .returned (.tuple #[]) ∧ outline_Segs.Told W0 w gF gC gK gO v x y kx ky xs w' := by
  have hu33 := Try.underlying33
  have hu37 := Try.underlying37
  have hF0 : w.cell? ⟨gF, 0, none⟩ = some (.int .i64 fx) := (blk_cell hF 0).trans rfl
  have hF1 : w.cell? ⟨gF, 1, none⟩ = some (.int .i64 fy) := (blk_cell hF 1).trans rfl
  have hC0 : w.cell? ⟨gC, 0, none⟩ = some (.bool false) := (blk_cell hC 0).trans rfl
  have hK0 : w.cell? ⟨gK, 0, none⟩ = some (.int .i64 kx) := (blk_cell hK 0).trans rfl
  have hK1 : w.cell? ⟨gK, 1, none⟩ = some (.int .i64 ky) := (blk_cell hK 1).trans rfl
  have hO0 : w.cell? ⟨gO, 0, none⟩ = some v := (blk_cell hO 0).trans rfl
  have lF := blk_lt hF
  have lC := blk_lt hC
  have lK := blk_lt hK
  have lO := blk_lt hO
  have eF0 := blk_frozen hF 0
  have eF1 := blk_frozen hF 1
  have eC0 := blk_frozen hC 0
  have eO0 := blk_frozen hO 0
  have hFC := blk_ne hF hC (by decide)
  have hFO := blk_ne hF hO (by decide)
  have hCO := blk_ne hC hO (by decide)
  have hKC := blk_ne hK hC (by decide)
  have hKO := blk_ne hK hO (by decide)
  have HF := Aside0.mk hF
  have HC := Aside0.mk hC
  have HK := Aside0.mk hK
  have HO := Aside0.mk hO
  have HR := Aside0.mk hR
  have HB := Aside0.mk hB
  have hW0 := hB.size
  clear hF hC hK hO hR hB
  go_enter Try.func48, Try.ntmps48
  go_wp2_with fail
  go_end0
  exact ⟨rfl, ((outline_Segs.told_of HF.out HC.out HK.out HO.out HR.out HB.out hbF hbC hFK (fun _ _ _ a _ _ _ _ => a)).alloc _).alloc _⟩
set_option maxHeartbeats 2000000 in
theorem outline_Segs.to_c1 (fx fy x y kx ky : Int) (v : Value) (W0 w : World) (gF gC gK gO : Nat) (xs : List S37)
    (hF : w.heap[gF]? = some (.cells #[.int .i64 fx, .int .i64 fy] 33 (0, 0))) (hC : w.heap[gC]? = some (.cells #[.bool true] 4 (0, 0)))
    (hK : w.heap[gK]? = some (.cells #[.int .i64 kx, .int .i64 ky] 33 (0, 0))) (hO : w.heap[gO]? = some (.cells #[v] 25 (0, 0)))
    (hR : Kd.R k37 37 w W0.heap.size (fun _ => True) v xs) (hB : Below W0.heap.size W0 w) (hbF : W0.heap.size ≤ gF) (hbC : W0.heap.size ≤ gC) (hbO : W0.heap.size ≤ gO) (hFK : gF ≠ gK)
    (q1 : (!fx == x || !fy == y) = true) (hl : xs.length < 2513169434916) :
    Calls Try.prog 48 #[.agg #[.int .i64 x, .int .i64 y], .pointer (some ⟨gF, 0, none⟩), .pointer (some ⟨gC, 0, none⟩), .pointer (some ⟨gK, 0, none⟩), .pointer (some ⟨gO, 0, none⟩)] w fun e w' => e = .returned (.tuple #[]) ∧ outline_Segs.Told W0 w gF gC gK gO v x y kx ky (xs ++ [(⟨⟨fx, fy⟩, ⟨kx, ky⟩, ⟨x, y⟩, true⟩ : S37)]) w' := by
  have hu33 := Try.underlying33
  have hu37 := Try.underlying37
  have hF0 : w.cell? ⟨gF, 0, none⟩ = some (.int .i64 fx) := (blk_cell hF 0).trans rfl
  have hF1 : w.cell? ⟨gF, 1, none⟩ = some (.int .i64 fy) := (blk_cell hF 1).trans rfl
  have hC0 : w.cell? ⟨gC, 0, none⟩ = some (.bool true) := (blk_cell hC 0).trans rfl
  have hK0 : w.cell? ⟨gK, 0, none⟩ = some (.int .i64 kx) := (blk_cell hK 0).trans rfl
  have hK1 : w.cell? ⟨gK, 1, none⟩ = some (.int .i64 ky) := (blk_cell hK 1).trans rfl
  have hO0 : w.cell? ⟨gO, 0, none⟩ = some v := (blk_cell hO 0).trans rfl
  have lF := blk_lt hF
  have lC := blk_lt hC
  have lK := blk_lt hK
  have lO := blk_lt hO
  have eF0 := blk_frozen hF 0
  have eF1 := blk_frozen hF 1
  have eC0 := blk_frozen hC 0
  have eO0 := blk_frozen hO 0
  have hFC := blk_ne hF hC (by decide)
  have hFO := blk_ne hF hO (by decide)
  have hCO := blk_ne hC hO (by decide)
  have hKC := blk_ne hK hC (by decide)
  have hKO := blk_ne hK hO (by decide)
  have HF := Aside0.mk hF
  have HC := Aside0.mk hC
  have HK := Aside0.mk hK
  have HO := Aside0.mk hO
  have HR := Aside0.mk hR
  have HB := Aside0.mk hB
  have hW0 := hB.size
  clear hF hC hK hO hR hB
  go_enter Try.func48, Try.ntmps48
  go_wp2_with ((with_reducible refine gate_builtin (b := .append) (xs := #[.tmp 30, .tmp 32]) rfl ?_); at_builtin; refine Kd.R_append k37 (w0 := W0) W0.heap.size rfl (.tmp 30) (.tmp 32) 25 37 (.agg #[.int .i64 0, .int .i64 0, .int .i64 0, .int .i64 0, .int .i64 0, .int .i64 0, .bool false]) 56 rfl Try.underlying25 info37 rfl (by decide) (by omega) v xs (⟨⟨fx, fy⟩, ⟨kx, ky⟩, ⟨x, y⟩, true⟩ : S37) [.int .i64 fx, .int .i64 fy, .int .i64 kx, .int .i64 ky, .int .i64 x, .int .i64 y, .bool true] (fun _ => True) (fun _ => False) rfl (by first | (go_simp; done) | (go_simp; rfl)) ?aP (fun _ hk => hk.elim) ?aF ?aO ?aB ?aS ?aL ?_; (case aP => exact k37_mkM _ _ _ (⟨⟨fx, fy⟩, ⟨kx, ky⟩, ⟨x, y⟩, true⟩ : S37)); (case aF => exact (fun _ _ => trivial)); (case aO => exact Kd.R_below HR.out (below_alloc (below_alloc (Below.refl _ _) _) _)); (case aB => exact below_then HB.out hW0 (below_alloc (below_alloc (Below.refl _ _) _) _)); (case aS => exact Nat.le_trans hW0 (below_alloc (below_alloc (Below.refl _ _) _) _ : Below w.heap.size w _).size); (case aL => omega); intro v1 w1 ho hb hg hat; obtain ⟨A1, c1, rfl⟩ := Kd.R_slice ho; have HO1 := Aside0.mk ho; have HB1 := Aside0.mk hb; have HG1 := Aside0.mk hg; have HX := outline_Segs.after hg HR.out; have HP := Aside0.mk HX.1; have HE := Aside0.mk HX.2; clear ho hb hg hat HX hF0 hF1 hC0 hK0 hK1 hO0 eF0 eF1 eC0 eO0; have jP0 : w1.cell? ⟨w.heap.size, 0, none⟩ = some (.int .i64 x) := (blk_cell HP.out 0).trans rfl; have jP1 : w1.cell? ⟨w.heap.size, 1, none⟩ = some (.int .i64 y) := (blk_cell HP.out 1).trans rfl; have jO : w1.cell? ⟨gO, 0, none⟩ = some v := (blk_cell (HE.out _ _ _ HO.out (by decide)) 0).trans rfl; have jF0 : w1.cell? ⟨gF, 0, none⟩ = some (.int .i64 fx) := (blk_cell (HE.out _ _ _ HF.out (by decide)) 0).trans rfl; have jF1 : w1.cell? ⟨gF, 1, none⟩ = some (.int .i64 fy) := (blk_cell (HE.out _ _ _ HF.out (by decide)) 1).trans rfl; have jC : w1.cell? ⟨gC, 0, none⟩ = some (.bool true) := (blk_cell (HE.out _ _ _ HC.out (by decide)) 0).trans rfl; have eF0 := blk_frozen (HE.out _ _ _ HF.out (by decide)) 0; have eF1 := blk_frozen (HE.out _ _ _ HF.out (by decide)) 1; have eC0 := blk_frozen (HE.out _ _ _ HC.out (by decide)) 0; have eO0 := blk_frozen (HE.out _ _ _ HO.out (by decide)) 0; have pF : w.heap.size ≠ gF := Nat.ne_of_gt lF; have pC : w.heap.size ≠ gC := Nat.ne_of_gt lC; have pO : w.heap.size ≠ gO := Nat.ne_of_gt lO)
  go_end0
  have f1 := HE.out _ _ _ HF.out (by decide)
  have f2 := HE.out _ _ _ HC.out (by decide)
  have f3 := HE.out _ _ _ HK.out (by decide)
  have f4 := HE.out _ _ _ HO.out (by decide)
  have p4 := blk_put (cs' := #[.slice A1 (xs.length + 1) c1]) f4 0 (.slice A1 (xs.length + 1) c1) rfl
  refine ⟨rfl, outline_Segs.told_of (blk_far (p := ⟨gO, 0, none⟩) f1 hFO _) (blk_far (p := ⟨gO, 0, none⟩) f2 hCO _) (blk_far (p := ⟨gO, 0, none⟩) f3 hKO _) p4 (by have z := Kd.R_set HO1.out f4 (by decide) 0 (.slice A1 (xs.length + 1) c1); simpa using z) (below_set HB1.out hbO) hbF hbC hFK ?_⟩
  exact fun g cs t a b c d e => blk_far (p := ⟨gO, 0, none⟩) (HE.out g cs t a e) d _
set_option maxHeartbeats 2000000 in
theorem outline_Segs.to_c2 (fx fy x y kx ky : Int) (v : Value) (W0 w : World) (gF gC gK gO : Nat) (xs : List S37)
    (hF : w.heap[gF]? = some (.cells #[.int .i64 fx, .int .i64 fy] 33 (0, 0))) (hC : w.heap[gC]? = some (.cells #[.bool true] 4 (0, 0)))
    (hK : w.heap[gK]? = some (.cells #[.int .i64 kx, .int .i64 ky] 33 (0, 0))) (hO : w.heap[gO]? = some (.cells #[v] 25 (0, 0)))
    (hR : Kd.R k37 37 w W0.heap.size (fun _ => True) v xs) (hB : Below W0.heap.size W0 w) (hbF : W0.heap.size ≤ gF) (hbC : W0.heap.size ≤ gC) (hbO : W0.heap.size ≤ gO) (hFK : gF ≠ gK)
    (q1 : (!fx == x || !fy == y) = false) (q2 : (!kx == fx || !ky == fy) = true) (hl : xs.length < 2513169434916) :
    Calls Try.prog 48 #[.agg #[.int .i64 x, .int .i64 y], .pointer (some ⟨gF, 0, none⟩), .pointer (some ⟨gC, 0, none⟩), .pointer (some ⟨gK, 0, none⟩), .pointer (some ⟨gO, 0, none⟩)] w fun e w' => e = .returned (.tuple #[]) ∧ outline_Segs.Told W0 w gF gC gK gO v x y kx ky (xs ++ [(⟨⟨fx, fy⟩, ⟨kx, ky⟩, ⟨x, y⟩, true⟩ : S37)]) w' := by
  have hu33 := Try.underlying33
  have hu37 := Try.underlying37
  have hF0 : w.cell? ⟨gF, 0, none⟩ = some (.int .i64 fx) := (blk_cell hF 0).trans rfl
  have hF1 : w.cell? ⟨gF, 1, none⟩ = some (.int .i64 fy) := (blk_cell hF 1).trans rfl
  have hC0 : w.cell? ⟨gC, 0, none⟩ = some (.bool true) := (blk_cell hC 0).trans rfl
  have hK0 : w.cell? ⟨gK, 0, none⟩ = some (.int .i64 kx) := (blk_cell hK 0).trans rfl
  have hK1 : w.cell? ⟨gK, 1, none⟩ = some (.int .i64 ky) := (blk_cell hK 1).trans rfl
  have hO0 : w.cell? ⟨gO, 0, none⟩ = some v := (blk_cell hO 0).trans rfl
  have lF := blk_lt hF
  have lC := blk_lt hC
  have lK := blk_lt hK
  have lO := blk_lt hO
  have eF0 := blk_frozen hF 0
  have eF1 := blk_frozen hF 1
  have eC0 := blk_frozen hC 0
  have eO0 := blk_frozen hO 0
  have hFC := blk_ne hF hC (by decide)
  have hFO := blk_ne hF hO (by decide)
  have hCO := blk_ne hC hO (by decide)
  have hKC := blk_ne hK hC (by decide)
  have hKO := blk_ne hK hO (by decide)
  have HF := Aside0.mk hF
  have HC := Aside0.mk hC
  have HK := Aside0.mk hK
  have HO := Aside0.mk hO
  have HR := Aside0.mk hR
  have HB := Aside0.mk hB
  have hW0 := hB.size
  clear hF hC hK hO hR hB
  go_enter Try.func48, Try.ntmps48
  go_wp2_with ((with_reducible refine gate_builtin (b := .append) (xs := #[.tmp 30, .tmp 32]) rfl ?_); at_builtin; refine Kd.R_append k37 (w0 := W0) W0.heap.size rfl (.tmp 30) (.tmp 32) 25 37 (.agg #[.int .i64 0, .int .i64 0, .int .i64 0, .int .i64 0, .int .i64 0, .int .i64 0, .bool false]) 56 rfl Try.underlying25 info37 rfl (by decide) (by omega) v xs (⟨⟨fx, fy⟩, ⟨kx, ky⟩, ⟨x, y⟩, true⟩ : S37) [.int .i64 fx, .int .i64 fy, .int .i64 kx, .int .i64 ky, .int .i64 x, .int .i64 y, .bool true] (fun _ => True) (fun _ => False) rfl (by first | (go_simp; done) | (go_simp; rfl)) ?aP (fun _ hk => hk.elim) ?aF ?aO ?aB ?aS ?aL ?_; (case aP => exact k37_mkM _ _ _ (⟨⟨fx, fy⟩, ⟨kx, ky⟩, ⟨x, y⟩, true⟩ : S37)); (case aF => exact (fun _ _ => trivial)); (case aO => exact Kd.R_below HR.out (below_alloc (below_alloc (Below.refl _ _) _) _)); (case aB => exact below_then HB.out hW0 (below_alloc (below_alloc (Below.refl _ _) _) _)); (case aS => exact Nat.le_trans hW0 (below_alloc (below_alloc (Below.refl _ _) _) _ : Below w.heap.size w _).size); (case aL => omega); intro v1 w1 ho hb hg hat; obtain ⟨A1, c1, rfl⟩ := Kd.R_slice ho; have HO1 := Aside0.mk ho; have HB1 := Aside0.mk hb; have HG1 := Aside0.mk hg; have HX := outline_Segs.after hg HR.out; have HP := Aside0.mk HX.1; have HE := Aside0.mk HX.2; clear ho hb hg hat HX hF0 hF1 hC0 hK0 hK1 hO0 eF0 eF1 eC0 eO0; have jP0 : w1.cell? ⟨w.heap.size, 0, none⟩ = some (.int .i64 x) := (blk_cell HP.out 0).trans rfl; have jP1 : w1.cell? ⟨w.heap.size, 1, none⟩ = some (.int .i64 y) := (blk_cell HP.out 1).trans rfl; have jO : w1.cell? ⟨gO, 0, none⟩ = some v := (blk_cell (HE.out _ _ _ HO.out (by decide)) 0).trans rfl; have jF0 : w1.cell? ⟨gF, 0, none⟩ = some (.int .i64 fx) := (blk_cell (HE.out _ _ _ HF.out (by decide)) 0).trans rfl; have jF1 : w1.cell? ⟨gF, 1, none⟩ = some (.int .i64 fy) := (blk_cell (HE.out _ _ _ HF.out (by decide)) 1).trans rfl; have jC : w1.cell? ⟨gC, 0, none⟩ = some (.bool true) := (blk_cell (HE.out _ _ _ HC.out (by decide)) 0).trans rfl; have eF0 := blk_frozen (HE.out _ _ _ HF.out (by decide)) 0; have eF1 := blk_frozen (HE.out _ _ _ HF.out (by decide)) 1; have eC0 := blk_frozen (HE.out _ _ _ HC.out (by decide)) 0; have eO0 := blk_frozen (HE.out _ _ _ HO.out (by decide)) 0; have pF : w.heap.size ≠ gF := Nat.ne_of_gt lF; have pC : w.heap.size ≠ gC := Nat.ne_of_gt lC; have pO : w.heap.size ≠ gO := Nat.ne_of_gt lO)
  go_end0
  have f1 := HE.out _ _ _ HF.out (by decide)
  have f2 := HE.out _ _ _ HC.out (by decide)
  have f3 := HE.out _ _ _ HK.out (by decide)
  have f4 := HE.out _ _ _ HO.out (by decide)
  have p4 := blk_put (cs' := #[.slice A1 (xs.length + 1) c1]) f4 0 (.slice A1 (xs.length + 1) c1) rfl
  refine ⟨rfl, outline_Segs.told_of (blk_far (p := ⟨gO, 0, none⟩) f1 hFO _) (blk_far (p := ⟨gO, 0, none⟩) f2 hCO _) (blk_far (p := ⟨gO, 0, none⟩) f3 hKO _) p4 (by have z := Kd.R_set HO1.out f4 (by decide) 0 (.slice A1 (xs.length + 1) c1); simpa using z) (below_set HB1.out hbO) hbF hbC hFK ?_⟩
  exact fun g cs t a b c d e => blk_far (p := ⟨gO, 0, none⟩) (HE.out g cs t a e) d _
set_option maxHeartbeats 2000000 in
theorem outline_Segs.to_c3 (fx fy x y kx ky : Int) (v : Value) (W0 w : World) (gF gC gK gO : Nat) (xs : List S37)
    (hF : w.heap[gF]? = some (.cells #[.int .i64 fx, .int .i64 fy] 33 (0, 0))) (hC : w.heap[gC]? = some (.cells #[.bool true] 4 (0, 0)))
    (hK : w.heap[gK]? = some (.cells #[.int .i64 kx, .int .i64 ky] 33 (0, 0))) (hO : w.heap[gO]? = some (.cells #[v] 25 (0, 0)))
    (hR : Kd.R k37 37 w W0.heap.size (fun _ => True) v xs) (hB : Below W0.heap.size W0 w) (hbF : W0.heap.size ≤ gF) (hbC : W0.heap.size ≤ gC) (hbO : W0.heap.size ≤ gO) (hFK : gF ≠ gK)
    (q1 : (!fx == x || !fy == y) = false) (q2 : (!kx == fx || !ky == fy) = false) :
    Calls Try.prog 48 #[.agg #[.int .i64 x, .int .i64 y], .pointer (some ⟨gF, 0, none⟩), .pointer (some ⟨gC, 0, none⟩), .pointer (some ⟨gK, 0, none⟩), .pointer (some ⟨gO, 0, none⟩)] w fun e w' => e = .returned (.tuple #[]) ∧ outline_Segs.Told W0 w gF gC gK gO v x y kx ky xs w' := by
  have hu33 := Try.underlying33
  have hu37 := Try.underlying37
  have hF0 : w.cell? ⟨gF, 0, none⟩ = some (.int .i64 fx) := (blk_cell hF 0).trans rfl
  have hF1 : w.cell? ⟨gF, 1, none⟩ = some (.int .i64 fy) := (blk_cell hF 1).trans rfl
  have hC0 : w.cell? ⟨gC, 0, none⟩ = some (.bool true) := (blk_cell hC 0).trans rfl
  have hK0 : w.cell? ⟨gK, 0, none⟩ = some (.int .i64 kx) := (blk_cell hK 0).trans rfl
  have hK1 : w.cell? ⟨gK, 1, none⟩ = some (.int .i64 ky) := (blk_cell hK 1).trans rfl
  have hO0 : w.cell? ⟨gO, 0, none⟩ = some v := (blk_cell hO 0).trans rfl
  have lF := blk_lt hF
  have lC := blk_lt hC
  have lK := blk_lt hK
  have lO := blk_lt hO
  have eF0 := blk_frozen hF 0
  have eF1 := blk_frozen hF 1
  have eC0 := blk_frozen hC 0
  have eO0 := blk_frozen hO 0
  have hFC := blk_ne hF hC (by decide)
  have hFO := blk_ne hF hO (by decide)
  have hCO := blk_ne hC hO (by decide)
  have hKC := blk_ne hK hC (by decide)
  have hKO := blk_ne hK hO (by decide)
  have HF := Aside0.mk hF
  have HC := Aside0.mk hC
  have HK := Aside0.mk hK
  have HO := Aside0.mk hO
  have HR := Aside0.mk hR
  have HB := Aside0.mk hB
  have hW0 := hB.size
  clear hF hC hK hO hR hB
  go_enter Try.func48, Try.ntmps48
  go_wp2_with fail
  go_end0
  exact ⟨rfl, ((outline_Segs.told_of HF.out HC.out HK.out HO.out HR.out HB.out hbF hbC hFK (fun _ _ _ a _ _ _ _ => a)).alloc _).alloc _⟩

/-- One call of the closure: a piece, if it is none alone. -/
def outline_Segs.St (W0 w : World) (gF gC gK gO : Nat) (fx fy : Int) (cv : Bool) (kx ky : Int) (xs : List S37) : Prop :=
  w.heap[gF]? = some (.cells #[.int .i64 fx, .int .i64 fy] 33 (0, 0)) ∧ w.heap[gC]? = some (.cells #[.bool cv] 4 (0, 0)) ∧ w.heap[gK]? = some (.cells #[.int .i64 kx, .int .i64 ky] 33 (0, 0)) ∧
  (∃ v, w.heap[gO]? = some (.cells #[v] 25 (0, 0)) ∧ Kd.R k37 37 w W0.heap.size (fun _ => True) v xs) ∧ Below W0.heap.size W0 w
def outline_Segs.Fr (w w' : World) (gF gC gK gO : Nat) : Prop :=
  ∀ (g : Nat) (cs : Array Value) (t : TypeId), w.heap[g]? = some (.cells cs t (0, 0)) → g ≠ gF → g ≠ gC → g ≠ gK → g ≠ gO → t ≠ 37 → w'.heap[g]? = some (.cells cs t (0, 0))
theorem outline_Segs.to_calls {W0 w : World} {gF gC gK gO : Nat} {fx fy : Int} {cv : Bool} {kx ky : Int} {xs xs' : List S37} (x y : Int) (hS : outline_Segs.St W0 w gF gC gK gO fx fy cv kx ky xs)
    (hbF : W0.heap.size ≤ gF) (hbC : W0.heap.size ≤ gC) (hbO : W0.heap.size ≤ gO) (hFK : gF ≠ gK) (h : outline_Segs.to fx fy cv kx ky xs x y = some xs') :
    Calls Try.prog 48 #[.agg #[.int .i64 x, .int .i64 y], .pointer (some ⟨gF, 0, none⟩), .pointer (some ⟨gC, 0, none⟩), .pointer (some ⟨gK, 0, none⟩), .pointer (some ⟨gO, 0, none⟩)] w fun e w' => e = .returned (.tuple #[]) ∧ outline_Segs.St W0 w' gF gC gK gO x y false kx ky xs' ∧ outline_Segs.Fr w w' gF gC gK gO := by
  obtain ⟨hF, hC, hK, ⟨v, hO, hR⟩, hB⟩ := hS
  have fin : ∀ (e : Ending) (w' : World), (e = .returned (.tuple #[]) ∧ outline_Segs.Told W0 w gF gC gK gO v x y kx ky xs' w') → e = .returned (.tuple #[]) ∧ outline_Segs.St W0 w' gF gC gK gO x y false kx ky xs' ∧ outline_Segs.Fr w w' gF gC gK gO := by
    rintro e w' ⟨he, h1, h2, h3, v', h4, h5, h6, h7⟩
    exact ⟨he, ⟨h1, h2, h3, ⟨v', h4, h5⟩, h6⟩, fun g cs t a b c d e f => h7 g cs t a b c e f⟩
  unfold outline_Segs.to at h
  cases cv with
  | true =>
    rw [if_pos rfl] at h
    by_cases q1 : (!fx == x || !fy == y) = true
    · rw [if_pos q1] at h
      unfold outline_Segs.put at h
      by_cases hl : xs.length < 2513169434916
      · rw [if_pos hl] at h
        obtain rfl := Option.some.inj h
        exact (outline_Segs.to_c1 fx fy x y kx ky v W0 w gF gC gK gO xs hF hC hK hO hR hB hbF hbC hbO hFK q1 hl).mono fin
      · rw [if_neg hl] at h; cases h
    · have q1' := Bool.eq_false_iff.2 q1
      rw [if_neg q1] at h
      by_cases q2 : (!kx == fx || !ky == fy) = true
      · rw [if_pos q2] at h
        unfold outline_Segs.put at h
        by_cases hl : xs.length < 2513169434916
        · rw [if_pos hl] at h
          obtain rfl := Option.some.inj h
          exact (outline_Segs.to_c2 fx fy x y kx ky v W0 w gF gC gK gO xs hF hC hK hO hR hB hbF hbC hbO hFK q1' q2 hl).mono fin
        · rw [if_neg hl] at h; cases h
      · have q2' := Bool.eq_false_iff.2 q2
        rw [if_neg q2] at h
        obtain rfl := Option.some.inj h
        exact (outline_Segs.to_c3 fx fy x y kx ky v W0 w gF gC gK gO xs hF hC hK hO hR hB hbF hbC hbO hFK q1' q2').mono fin
  | false =>
    rw [if_neg (by simp)] at h
    by_cases q1 : (!fx == x || !fy == y) = true
    · rw [if_pos q1] at h
      unfold outline_Segs.put at h
      by_cases hl : xs.length < 2513169434916
      · rw [if_pos hl] at h
        obtain rfl := Option.some.inj h
        exact (outline_Segs.to_s1 fx fy x y kx ky v W0 w gF gC gK gO xs hF hC hK hO hR hB hbF hbC hbO hFK q1 hl).mono fin
      · rw [if_neg hl] at h; cases h
    · have q1' := Bool.eq_false_iff.2 q1
      rw [if_neg q1] at h
      obtain rfl := Option.some.inj h
      exact (outline_Segs.to_s2 fx fy x y kx ky v W0 w gF gC gK gO xs hF hC hK hO hR hB hbF hbC hbO hFK q1').mono fin
theorem outline_Segs.l0_step {k : Nat} {l : List S39} {a i bx yb fx fy : Int} {cv : Bool} {kx ky : Int} {xs r : List S37} (h : outline_Segs.l0 (k + 1) l a i bx yb fx fy cv kx ky xs = some r) (ci : i < (l.length : Int)) :
    ∃ j, Int.tmod (wrap64 (a + i)) (l.length : Int) = j ∧ 0 ≤ j ∧ j < (l.length : Int) ∧
      (((rd_T39 l j).f2 = true ∧ i > 0 ∧ ∃ xs', outline_Segs.to fx fy cv kx ky xs (rd_T39 l j).f0 (rd_T39 l j).f1 = some xs' ∧ outline_Segs.l0 k l a (wrap64 (i + 1)) bx yb (rd_T39 l j).f0 (rd_T39 l j).f1 false kx ky xs' = some r)
      ∨ ((rd_T39 l j).f2 = true ∧ ¬ i > 0 ∧ outline_Segs.l0 k l a (wrap64 (i + 1)) bx yb fx fy cv kx ky xs = some r)
      ∨ ((rd_T39 l j).f2 = false ∧ cv = true ∧ ∃ mx my xs', outline_Mid.f kx ky (rd_T39 l j).f0 (rd_T39 l j).f1 = some (mx, my) ∧ outline_Segs.to fx fy cv kx ky xs mx my = some xs' ∧ outline_Segs.l0 k l a (wrap64 (i + 1)) bx yb mx my true (rd_T39 l j).f0 (rd_T39 l j).f1 xs' = some r)
      ∨ ((rd_T39 l j).f2 = false ∧ cv = false ∧ outline_Segs.l0 k l a (wrap64 (i + 1)) bx yb fx fy true (rd_T39 l j).f0 (rd_T39 l j).f1 xs = some r)) := by
  refine ⟨_, rfl, ?_⟩
  unfold outline_Segs.l0 at h
  rw [if_pos ci] at h
  generalize Int.tmod (wrap64 (a + i)) (l.length : Int) = j at h ⊢
  by_cases j0 : 0 ≤ j
  · rw [if_pos j0] at h
    by_cases j1 : j < (l.length : Int)
    · rw [if_pos j1] at h
      refine ⟨j0, j1, ?_⟩
      by_cases q : (rd_T39 l j).f2 = true
      · rw [if_pos q] at h
        by_cases i0 : i > 0
        · rw [if_pos i0] at h
          obtain ⟨xs', h1, h2⟩ := Option.bind_eq_some_iff.1 h
          exact .inl ⟨q, i0, xs', h1, h2⟩
        · rw [if_neg i0] at h
          exact .inr (.inl ⟨q, i0, h⟩)
      · rw [if_neg q] at h
        have q' : (rd_T39 l j).f2 = false := by simpa using q
        cases cv with
        | true =>
          rw [if_pos rfl] at h
          obtain ⟨⟨mx, my⟩, h1, h2⟩ := Option.bind_eq_some_iff.1 h
          obtain ⟨xs', h2, h3⟩ := Option.bind_eq_some_iff.1 h2
          exact .inr (.inr (.inl ⟨q', rfl, mx, my, xs', h1, h2, h3⟩))
        | false =>
          rw [if_neg Bool.false_ne_true] at h
          exact .inr (.inr (.inr ⟨q', rfl, h⟩))
    · rw [if_neg j1] at h; cases h
  · rw [if_neg j0] at h; cases h
theorem outline_Segs.St.below {W0 w w' : World} {gF gC gK gO : Nat} {fx fy : Int} {cv : Bool} {kx ky : Int} {xs : List S37} (h : outline_Segs.St W0 w gF gC gK gO fx fy cv kx ky xs) (hb : Below w.heap.size w w') : outline_Segs.St W0 w' gF gC gK gO fx fy cv kx ky xs := by
  obtain ⟨h1, h2, h3, ⟨v, h4, h5⟩, h6⟩ := h
  exact ⟨blk_below h1 hb, blk_below h2 hb, blk_below h3 hb, ⟨v, blk_below h4 hb, Kd.R_below h5 hb⟩, below_then h6 h6.size hb⟩
theorem outline_Segs.St.alloc {W0 w : World} {gF gC gK gO : Nat} {fx fy : Int} {cv : Bool} {kx ky : Int} {xs : List S37} (h : outline_Segs.St W0 w gF gC gK gO fx fy cv kx ky xs) (o : Obj) : outline_Segs.St W0 (w.alloc o) gF gC gK gO fx fy cv kx ky xs :=
  h.below (below_alloc (Below.refl _ _) _)
theorem outline_Segs.St.control {W0 w : World} {gF gC gK gO : Nat} {fx fy : Int} {cv : Bool} {kx ky : Int} {xs : List S37} (h : outline_Segs.St W0 w gF gC gK gO fx fy cv kx ky xs) (x y : Int) (hbK : W0.heap.size ≤ gK) (hbC : W0.heap.size ≤ gC) (hFK : gF ≠ gK) :
    outline_Segs.St W0 (((w.setCell ⟨gK, 0, none⟩ (.int .i64 x)).setCell ⟨gK, 1, none⟩ (.int .i64 y)).setCell ⟨gC, 0, none⟩ (.bool true)) gF gC gK gO fx fy true x y xs := by
  obtain ⟨hF, hC, hK, ⟨v, hO, hR⟩, hB⟩ := h
  have hFC : gF ≠ gC := blk_ne hF hC (by decide)
  have hKO : gK ≠ gO := blk_ne hK hO (by decide)
  have hCO : gC ≠ gO := blk_ne hC hO (by decide)
  have hKC : gK ≠ gC := blk_ne hK hC (by decide)
  have a1 := blk_put (cs' := #[.int .i64 x, .int .i64 ky]) hK 0 (.int .i64 x) rfl
  have a2 := blk_put (cs' := #[.int .i64 x, .int .i64 y]) a1 1 (.int .i64 y) rfl
  have c2 := blk_far (p := ⟨gK, 1, none⟩) (blk_far (p := ⟨gK, 0, none⟩) hC hKC.symm (.int .i64 x)) hKC.symm (.int .i64 y)
  have r1 := Kd.R_set hR hK (by decide) 0 (.int .i64 x)
  have r2 := Kd.R_set r1 a1 (by decide) 1 (.int .i64 y)
  refine ⟨blk_far (p := ⟨gC, 0, none⟩) (blk_far (p := ⟨gK, 1, none⟩) (blk_far (p := ⟨gK, 0, none⟩) hF hFK _) hFK _) hFC _, blk_put (cs' := #[.bool true]) c2 0 _ rfl, blk_far (p := ⟨gC, 0, none⟩) a2 hKC _, ⟨v, ?_, Kd.R_set r2 c2 (by decide) 0 _⟩, below_set (below_set (below_set hB hbK) hbK) hbC⟩
  exact blk_far (p := ⟨gC, 0, none⟩) (blk_far (p := ⟨gK, 1, none⟩) (blk_far (p := ⟨gK, 0, none⟩) hO hKO.symm _) hKO.symm _) hCO.symm _
set_option maxHeartbeats 6000000 in
theorem outline_Segs.calls (k : Nat) (A0 : Option Addr) (c0 : Nat) (l0 : List (S39)) (r : List (S37)) (w : World) (hr0 : Kd.C k39 w A0 l0.length l0) (hc0 : l0.length ≤ c0) (h : outline_Segs.f k l0 = some r) :
    Calls Try.prog 16 #[.slice A0 l0.length c0] w fun e w' => ∃ v0_ : Value, e = .returned (v0_) ∧ Kd.R k37 37 w' w.heap.size (fun _ => True) v0_ r ∧ Below w.heap.size w w' := by
  unfold outline_Segs.f at h
  by_cases hn : (l0.length : Int) = 0
  · rw [if_pos hn] at h
    obtain rfl := Option.some.inj h
    clear h
    have hn0 : l0.length = 0 := by omega
    go_enter Try.func16, Try.ntmps16
    go_wp2_with fail
    go_ret
    exact ⟨_, rfl, Kd.R_nil _ _ _ _ _, Below.refl _ _⟩
  · rw [if_neg hn] at h
    obtain ⟨⟨s1, s2⟩, hs, h⟩ := Option.bind_eq_some_iff.1 h
    simp only at h
    by_cases hs0 : 0 ≤ s1
    · rw [if_pos hs0] at h
      by_cases hs1 : s1 < (l0.length : Int)
      · rw [if_pos hs1] at h
        have hnb : ((l0.length : Int) == 0) = false := beq_eq_false_iff_ne.2 hn
        have H := Aside0.mk h
        have HS := Aside0.mk hs
        have HC := Aside0.mk hr0
        clear h hs hr0 hn
        have hu33 := Try.underlying33
        have hu39 := Try.underlying39
        go_enter Try.func16, Try.ntmps16
        go_wp2_with fail
        (with_reducible refine (outline_start.calls k A0 c0 l0 s1 s2 w HC.out hc0 HS.out).mono ?_)
        rintro e w1 ⟨rfl, hb1⟩
        have HC1 := Aside0.mk (Kd.C_below HC.out hb1)
        obtain ⟨ad, hA, hg0, hg1, hg2⟩ := at_T39 HC1.out s1 hs0 hs1
        subst hA
        go_wp2_with fail
        (with_reducible refine (outline_place.calls _ _ _ _ _ w1 rfl).mono ?_)
        rintro e w2 ⟨rfl, hb2⟩
        have HB2 := Aside0.mk (below_step hb1 hb2)
        clear hb1 hb2
        cases s2 with
        | true =>
          have H := Aside0.mk (show outline_Segs.l0 k l0 s1 0 (rd_T39 l0 s1).f0 (rd_T39 l0 s1).f1 (rd_T39 l0 s1).f0 (rd_T39 l0 s1).f1 false 0 0 [] = some r from H.out)
          clear hg0 hg1 hg2
          generalize (rd_T39 l0 s1).f0 = bx at *
          generalize (rd_T39 l0 s1).f1 = yb at *
          go_wp2_with fail
          have hsz : w.heap.size ≤ w2.heap.size := HB2.out.size
          have H' := H
          go_loopg [44] k (fun kq v44 w' => ∃ (i fx fy : Int) (cv : Bool) (kx ky : Int) (xs : List S37), v44 = .int .i64 i ∧ Aside0 (outline_Segs.l0 kq l0 s1 i bx yb fx fy cv kx ky xs = some r) ∧ Aside0 (kq ≤ k) ∧ Aside0 (outline_Segs.St w w' (w2.heap.size + 1 + 1) (w2.heap.size + 1 + 1 + 1 + 1) (w2.heap.size + 1 + 1 + 1) (w2.heap.size + 1) fx fy cv kx ky xs) ∧ Aside0 (w'.heap[w2.heap.size]? = some (.cells #[.int .i64 bx, .int .i64 yb] 33 (0, 0))))
          case atStart =>
            refine ⟨0, bx, yb, false, 0, 0, [], rfl, H', ⟨Nat.le_refl _⟩, ⟨?_, ?_, ?_, ⟨.slice none 0 0, ?_, Kd.R_nil _ _ _ _ _⟩, ?_⟩, ⟨?_⟩⟩
            · exact blk_alloc (blk_alloc (Aid.blk_top _ _ _ (by simp)) _) _
            · exact Aid.blk_top _ _ _ (by simp)
            · exact blk_alloc (Aid.blk_top _ _ _ (by simp)) _
            · exact blk_alloc (blk_alloc (blk_alloc (Aid.blk_top _ _ _ (by simp)) _) _) _
            · exact below_alloc (below_alloc (below_alloc (below_alloc (below_alloc HB2.out _) _) _) _) _
            · exact blk_alloc (blk_alloc (blk_alloc (blk_alloc (Aid.blk_top _ _ _ (by simp)) _) _) _) _
          case round =>
            clear H' H
            obtain ⟨i, fx, fy, cv, kx, ky, xs, rfl, HA, HK1, HSt, HBk⟩ := hrel
            cases gk with
            | zero => exact absurd HA.out (by simp [outline_Segs.l0])
            | succ k1 =>
              by_cases ci : i < (l0.length : Int)
              · obtain ⟨j, hj, j0, j1, hway⟩ := outline_Segs.l0_step HA.out ci
                have cib : decide (i < (l0.length : Int)) = true := decide_eq_true ci
                clear ci HA
                have hBr := HSt.out.2.2.2.2
                obtain ⟨ad', ea, e0, e1, e2⟩ := at_T39 (Kd.C_below HC.out hBr) j j0 j1
                obtain rfl := Option.some.inj ea
                clear ea hBr
                generalize rd_T39 l0 j = el at *
                obtain ⟨ex, ey, eo⟩ := el
                simp only at e0 e1 e2
                rcases hway with ⟨q, i0, xs', ht, H⟩ | ⟨q, i0, H⟩ | ⟨q, rfl, mx, my, xs', hm, ht, H⟩ | ⟨q, rfl, H⟩ <;> replace q := (show eo = _ from q) <;> subst q
                · have HT := Aside0.mk ht
                  have HL := Aside0.mk H
                  have i0b : decide (0 < i) = true := decide_eq_true i0
                  clear i0 ht H
                  go_wp2_with fail
                  (with_reducible refine (outline_place.calls _ _ _ _ _ _ rfl).mono ?_)
                  rintro e w3 ⟨rfl, hb3⟩
                  have HBk := Aside0.mk (blk_below (blk_alloc HBk.out _) hb3)
                  have HSt := Aside0.mk ((HSt.out.alloc _).below hb3)
                  clear hb3 e0 e1 e2
                  go_wp2_with fail
                  (with_reducible refine (outline_Segs.to_calls ex ey HSt.out (by omega) (by omega) (by omega) (by omega) HT.out).mono ?_)
                  rintro e w4 ⟨rfl, hSt, hfr⟩
                  have HBk := Aside0.mk (hfr _ _ _ HBk.out (by omega) (by omega) (by omega) (by omega) (by decide))
                  have HSt := Aside0.mk hSt
                  clear hSt hfr
                  go_wp2_with fail
                  go_roundg k1
                  case measure => have := HK1.out; omega
                  case rel => exact ⟨_, _, _, _, _, _, _, rfl, HL, ⟨by have := HK1.out; omega⟩, HSt, HBk⟩
                · have HL := Aside0.mk H
                  have i0b : decide (0 < i) = false := decide_eq_false i0
                  clear i0 H
                  go_wp2_with fail
                  go_roundg k1
                  case measure => have := HK1.out; omega
                  case rel => exact ⟨_, _, _, _, _, _, _, rfl, HL, ⟨by have := HK1.out; omega⟩, ⟨HSt.out.alloc _⟩, ⟨blk_alloc HBk.out _⟩⟩
                · have HM := Aside0.mk hm
                  have HT := Aside0.mk ht
                  have HL := Aside0.mk H
                  clear hm ht H
                  have jC : wr.cell? ⟨w2.heap.size + 1 + 1 + 1 + 1, 0, none⟩ = some (.bool true) := (blk_cell HSt.out.2.1 0).trans rfl
                  have lC : w2.heap.size + 1 + 1 + 1 + 1 < wr.heap.size := blk_lt HSt.out.2.1
                  go_wp2_with fail
                  have HSt := Aside0.mk ((HSt.out.alloc (.cells #[.int .i64 ex, .int .i64 ey, .bool false] 39 (0, 0))).below (below_drew1 (Below.refl _ _)))
                  have HBk := Aside0.mk (blk_below (blk_alloc HBk.out (.cells #[.int .i64 ex, .int .i64 ey, .bool false] 39 (0, 0))) (below_drew1 (Below.refl _ _)))
                  have HEk := Aside0.mk (blk_below (blk_new wr (.cells #[.int .i64 ex, .int .i64 ey, .bool false] 39 (0, 0))) (below_drew1 (Below.refl _ _)))
                  have jK0 := (blk_cell HSt.out.2.2.1 0).trans rfl
                  have jK1 := (blk_cell HSt.out.2.2.1 1).trans rfl
                  have jE0 := (blk_cell HEk.out 0).trans rfl
                  have jE1 := (blk_cell HEk.out 1).trans rfl
                  have jE2 := (blk_cell HEk.out 2).trans rfl
                  clear e0 e1 e2
                  go_region_held3 (fun w' => w'.cell? ⟨w2.heap.size + 1 + 1 + 1, 0, none⟩ = some (.int .i64 kx) ∧ w'.cell? ⟨w2.heap.size + 1 + 1 + 1, 1, none⟩ = some (.int .i64 ky) ∧ w'.cell? ⟨wr.heap.size, 0, none⟩ = some (.int .i64 ex) ∧ w'.cell? ⟨wr.heap.size, 1, none⟩ = some (.int .i64 ey) ∧ w'.cell? ⟨wr.heap.size, 2, none⟩ = some (.bool false))
                    (first | exact ⟨jK0, jK1, jE0, jE1, jE2⟩)
                    (first
                      | (go_at_call 47; (with_reducible refine (outline_place.calls _ _ _ _ _ _ rfl).mono ?_); rintro e w3 ⟨rfl, hb3⟩; have HBk := Aside0.mk (blk_below HBk.out hb3); have HSt := Aside0.mk (HSt.out.below hb3); have HEk := Aside0.mk (blk_below HEk.out hb3); have jK0 := (blk_cell HSt.out.2.2.1 0).trans rfl; have jK1 := (blk_cell HSt.out.2.2.1 1).trans rfl; have jE0 := (blk_cell HEk.out 0).trans rfl; have jE1 := (blk_cell HEk.out 1).trans rfl; have jE2 := (blk_cell HEk.out 2).trans rfl)
                      | (go_at_call 20; (with_reducible refine (outline_Mid.calls _ _ _ _ _ _ _ HM.out).mono ?_); rintro e w4 ⟨rfl, hb4⟩; have HBk := Aside0.mk (blk_below HBk.out hb4); have HSt := Aside0.mk (HSt.out.below hb4); have HEk := Aside0.mk (blk_below HEk.out hb4); have jK0 := (blk_cell HSt.out.2.2.1 0).trans rfl; have jK1 := (blk_cell HSt.out.2.2.1 1).trans rfl; have jE0 := (blk_cell HEk.out 0).trans rfl; have jE1 := (blk_cell HEk.out 1).trans rfl; have jE2 := (blk_cell HEk.out 2).trans rfl)
                      | (go_at_call 48; (with_reducible refine (outline_Segs.to_calls mx my HSt.out (by omega) (by omega) (by omega) (by omega) HT.out).mono ?_); rintro e w5 ⟨rfl, hSt, hfr⟩; have HBk := Aside0.mk (hfr _ _ _ HBk.out (by omega) (by omega) (by omega) (by omega) (by decide)); have HEk := Aside0.mk (hfr _ _ _ HEk.out (by omega) (by omega) (by omega) (by omega) (by decide)); have HSt := Aside0.mk hSt; have jK0 := (blk_cell HSt.out.2.2.1 0).trans rfl; have jK1 := (blk_cell HSt.out.2.2.1 1).trans rfl; have jE0 := (blk_cell HEk.out 0).trans rfl; have jE1 := (blk_cell HEk.out 1).trans rfl; have jE2 := (blk_cell HEk.out 2).trans rfl))
                  go_wp2_with fail
                  (with_reducible refine (outline_place.calls _ _ _ _ _ _ rfl).mono ?_)
                  rintro e w7 ⟨rfl, hb7⟩
                  have HBk := Aside0.mk (blk_below HBk.out hb7)
                  have HSt := Aside0.mk (HSt.out.below hb7)
                  have jK0 := (blk_cell HSt.out.2.2.1 0).trans rfl
                  have jK1 := (blk_cell HSt.out.2.2.1 1).trans rfl
                  have jC := (blk_cell HSt.out.2.1 0).trans rfl
                  have eK0 := blk_frozen HSt.out.2.2.1 0
                  have eK1 := blk_frozen HSt.out.2.2.1 1
                  have eC0 := blk_frozen HSt.out.2.1 0
                  clear hb7 jE0 jE1 jE2
                  go_wp2_with fail
                  go_roundg k1
                  case measure => have := HK1.out; omega
                  case rel => exact ⟨_, _, _, _, _, _, _, rfl, HL, ⟨by have := HK1.out; omega⟩, ⟨HSt.out.control ex ey (by omega) (by omega) (by omega)⟩, ⟨blk_far (p := ⟨w2.heap.size + 1 + 1 + 1 + 1, 0, none⟩) (blk_far (p := ⟨w2.heap.size + 1 + 1 + 1, 1, none⟩) (blk_far (p := ⟨w2.heap.size + 1 + 1 + 1, 0, none⟩) HBk.out (show w2.heap.size ≠ w2.heap.size + 1 + 1 + 1 by omega) _) (show w2.heap.size ≠ w2.heap.size + 1 + 1 + 1 by omega) _) (show w2.heap.size ≠ w2.heap.size + 1 + 1 + 1 + 1 by omega) _⟩⟩
                · have HL := Aside0.mk H
                  clear H
                  have jC : wr.cell? ⟨w2.heap.size + 1 + 1 + 1 + 1, 0, none⟩ = some (.bool false) := (blk_cell HSt.out.2.1 0).trans rfl
                  have lC : w2.heap.size + 1 + 1 + 1 + 1 < wr.heap.size := blk_lt HSt.out.2.1
                  go_wp2_with fail
                  (with_reducible refine (outline_place.calls _ _ _ _ _ _ rfl).mono ?_)
                  rintro e w7 ⟨rfl, hb7⟩
                  have HBk := Aside0.mk (blk_below (blk_alloc HBk.out _) hb7)
                  have HSt := Aside0.mk ((HSt.out.alloc _).below hb7)
                  have jK0 := (blk_cell HSt.out.2.2.1 0).trans rfl
                  have jK1 := (blk_cell HSt.out.2.2.1 1).trans rfl
                  have jC := (blk_cell HSt.out.2.1 0).trans rfl
                  have eK0 := blk_frozen HSt.out.2.2.1 0
                  have eK1 := blk_frozen HSt.out.2.2.1 1
                  have eC0 := blk_frozen HSt.out.2.1 0
                  clear hb7
                  go_wp2_with fail
                  go_roundg k1
                  case measure => have := HK1.out; omega
                  case rel => exact ⟨_, _, _, _, _, _, _, rfl, HL, ⟨by have := HK1.out; omega⟩, ⟨HSt.out.control ex ey (by omega) (by omega) (by omega)⟩, ⟨blk_far (p := ⟨w2.heap.size + 1 + 1 + 1 + 1, 0, none⟩) (blk_far (p := ⟨w2.heap.size + 1 + 1 + 1, 1, none⟩) (blk_far (p := ⟨w2.heap.size + 1 + 1 + 1, 0, none⟩) HBk.out (show w2.heap.size ≠ w2.heap.size + 1 + 1 + 1 by omega) _) (show w2.heap.size ≠ w2.heap.size + 1 + 1 + 1 by omega) _) (show w2.heap.size ≠ w2.heap.size + 1 + 1 + 1 + 1 by omega) _⟩⟩
              · have H := HA.out
                clear HA
                unfold outline_Segs.l0 at H
                rw [if_neg ci] at H
                have cib : decide (i < (l0.length : Int)) = false := decide_eq_false ci
                clear ci
                have HL := Aside0.mk H
                clear H
                have jB0 : wr.cell? ⟨w2.heap.size, 0, none⟩ = some (.int .i64 bx) := (blk_cell HBk.out 0).trans rfl
                have jB1 : wr.cell? ⟨w2.heap.size, 1, none⟩ = some (.int .i64 yb) := (blk_cell HBk.out 1).trans rfl
                go_wp2_with fail
                (with_reducible refine (outline_Segs.to_calls bx yb HSt.out (by omega) (by omega) (by omega) (by omega) HL.out).mono ?_)
                rintro e w3 ⟨rfl, hSt, hfr⟩
                obtain ⟨hF, hC, hK, ⟨v, hO, hR⟩, hB⟩ := hSt
                obtain ⟨A1, c1, rfl⟩ := Kd.R_slice hR
                have HR := Aside0.mk hR
                have HB3 := Aside0.mk hB
                have jO : w3.cell? ⟨w2.heap.size + 1, 0, none⟩ = some (.slice A1 r.length c1) := (blk_cell hO 0).trans rfl
                clear hF hC hK hO hR hB hfr
                go_wp2_with fail
                go_ret
                exact ⟨_, rfl, HR.out, HB3.out⟩
        | false =>
          have H := H.out
          rw [if_neg Bool.false_ne_true] at H
          by_cases q0 : 0 ≤ wrap64 ((l0.length : Int) - 1)
          · rw [if_pos q0] at H
            by_cases q1 : wrap64 ((l0.length : Int) - 1) < (l0.length : Int)
            · rw [if_pos q1] at H
              obtain ⟨⟨px, py⟩, hm, hl⟩ := Option.bind_eq_some_iff.1 H
              have HM := Aside0.mk hm
              have HL := Aside0.mk hl
              clear H hm hl
              obtain ⟨e, he⟩ : ∃ e, wrap64 ((l0.length : Int) - 1) = e := ⟨_, rfl⟩
              rw [he] at q0 q1 HM
              have he' : IntKind.i64.wrap ((l0.length : Int) - 1) = e := (i64_w _).trans he
              have hpos : (0 : Int) < (l0.length : Int) := by omega
              have hposN : 0 < l0.length := by omega
              have hposL : l0 ≠ [] := List.length_pos_iff.1 hposN
              go_wp2_with fail
              have HBx := Aside0.mk (blk_new w2 (.cells #[.int .i64 (rd_T39 l0 s1).f0, .int .i64 (rd_T39 l0 s1).f1] 33 (0, 0)))
              have HB3 := Aside0.mk (below_alloc HB2.out (.cells #[.int .i64 (rd_T39 l0 s1).f0, .int .i64 (rd_T39 l0 s1).f1] 33 (0, 0)))
              have HBx := Aside0.mk (blk_below HBx.out (below_drew1 (Below.refl _ _)))
              have HB3 := Aside0.mk (below_drew1 HB3.out)
              have HC3 := Aside0.mk (Kd.C_below HC.out HB2.out)
              obtain ⟨ad', ea, e0, e1, e2⟩ := at_T39 HC3.out e q0 q1
              obtain rfl := Option.some.inj ea
              clear ea
              obtain ⟨ad', ea, z0, z1, z2⟩ := at_T39 HC3.out 0 (by omega) hpos
              obtain rfl := Option.some.inj ea
              clear ea
              generalize rd_T39 l0 e = el at *
              generalize rd_T39 l0 0 = ul at *
              obtain ⟨lx, ly, lo⟩ := el
              obtain ⟨ux, uy, uo⟩ := ul
              simp only at e0 e1 e2 z0 z1 z2
              have haz : ad.add ((0 : Int).toNat * 3) = ad := by simp [Addr.add]
              rw [haz] at z0 z1 z2
              clear haz
              have nE : (ad.add (e.toNat * 3)).block ≠ w2.heap.size := Nat.ne_of_lt (World.block_lt_of_cell? w2 _ e0)
              have nZ : ad.block ≠ w2.heap.size := Nat.ne_of_lt (World.block_lt_of_cell? w2 _ z0)
              have hal := below_drew1 (below_alloc (Below.refl w2.heap.size w2) (.cells #[.int .i64 (rd_T39 l0 s1).f0, .int .i64 (rd_T39 l0 s1).f1] 33 (0, 0)))
              have e0 := pw_cell_below hal e0; have e1 := pw_cell_below hal e1; have e2 := pw_cell_below hal e2; have z0 := pw_cell_below hal z0; have z1 := pw_cell_below hal z1; have z2 := pw_cell_below hal z2
              have Hal := Aside0.mk hal
              clear hal
              go_region_held3 (fun w' => w'.cell? (ad.add (e.toNat * 3)) = some (.int .i64 lx) ∧ w'.cell? ⟨(ad.add (e.toNat * 3)).block, (ad.add (e.toNat * 3)).off + 1, none⟩ = some (.int .i64 ly) ∧ w'.cell? ⟨(ad.add (e.toNat * 3)).block, (ad.add (e.toNat * 3)).off + 2, none⟩ = some (.bool lo) ∧ w'.cell? ad = some (.int .i64 ux) ∧ w'.cell? ⟨ad.block, ad.off + 1, none⟩ = some (.int .i64 uy) ∧ w'.cell? ⟨ad.block, ad.off + 2, none⟩ = some (.bool uo))
                (first | exact ⟨e0, e1, e2, z0, z1, z2⟩ | exact ⟨(cell_far (a := (ad.add (e.toNat * 3))) (p := ⟨w2.heap.size, 1, none⟩) nE _).trans ((cell_far (a := (ad.add (e.toNat * 3))) (p := ⟨w2.heap.size, 0, none⟩) nE _).trans e0), (cell_far (a := ⟨(ad.add (e.toNat * 3)).block, (ad.add (e.toNat * 3)).off + 1, none⟩) (p := ⟨w2.heap.size, 1, none⟩) nE _).trans ((cell_far (a := ⟨(ad.add (e.toNat * 3)).block, (ad.add (e.toNat * 3)).off + 1, none⟩) (p := ⟨w2.heap.size, 0, none⟩) nE _).trans e1), (cell_far (a := ⟨(ad.add (e.toNat * 3)).block, (ad.add (e.toNat * 3)).off + 2, none⟩) (p := ⟨w2.heap.size, 1, none⟩) nE _).trans ((cell_far (a := ⟨(ad.add (e.toNat * 3)).block, (ad.add (e.toNat * 3)).off + 2, none⟩) (p := ⟨w2.heap.size, 0, none⟩) nE _).trans e2), (cell_far (a := ad) (p := ⟨w2.heap.size, 1, none⟩) nZ _).trans ((cell_far (a := ad) (p := ⟨w2.heap.size, 0, none⟩) nZ _).trans z0), (cell_far (a := ⟨ad.block, ad.off + 1, none⟩) (p := ⟨w2.heap.size, 1, none⟩) nZ _).trans ((cell_far (a := ⟨ad.block, ad.off + 1, none⟩) (p := ⟨w2.heap.size, 0, none⟩) nZ _).trans z1), (cell_far (a := ⟨ad.block, ad.off + 2, none⟩) (p := ⟨w2.heap.size, 1, none⟩) nZ _).trans ((cell_far (a := ⟨ad.block, ad.off + 2, none⟩) (p := ⟨w2.heap.size, 0, none⟩) nZ _).trans z2)⟩)
                (first
                  | (go_at_call 47; (with_reducible refine (outline_place.calls _ _ _ _ _ _ rfl).mono ?_); rintro e w3 ⟨rfl, hb3⟩; have e0 := pw_cell_below hb3 e0; have e1 := pw_cell_below hb3 e1; have e2 := pw_cell_below hb3 e2; have z0 := pw_cell_below hb3 z0; have z1 := pw_cell_below hb3 z1; have z2 := pw_cell_below hb3 z2; have HBx := Aside0.mk (blk_below HBx.out hb3); have HB3 := Aside0.mk (below_step HB3.out hb3); clear hb3)
                  | (go_at_call 20; (with_reducible refine (outline_Mid.calls _ _ _ _ _ _ _ HM.out).mono ?_); rintro e w4 ⟨rfl, hb4⟩; have e0 := pw_cell_below hb4 e0; have e1 := pw_cell_below hb4 e1; have e2 := pw_cell_below hb4 e2; have z0 := pw_cell_below hb4 z0; have z1 := pw_cell_below hb4 z1; have z2 := pw_cell_below hb4 z2; have HBx := Aside0.mk (blk_below HBx.out hb4); have HB3 := Aside0.mk (below_step HB3.out hb4); clear hb4; have bx0 := (blk_cell HBx.out 0).trans rfl; have bx1 := (blk_cell HBx.out 1).trans rfl; have fx0 := blk_frozen HBx.out 0; have fx1 := blk_frozen HBx.out 1))
              have HB5 := Aside0.mk (below_set (j := 1) (v := .int .i64 py) (below_set (j := 0) (v := .int .i64 px) HB3.out HB2.out.size) HB2.out.size)
              have HBx5 := Aside0.mk (blk_put (cs' := #[.int .i64 px, .int .i64 py]) (blk_put (cs' := #[.int .i64 px, .int .i64 (rd_T39 l0 s1).f1]) HBx.out 0 (.int .i64 px) rfl) 1 (.int .i64 py) rfl)
              generalize ((w4.setCell ⟨w2.heap.size, 0, none⟩ (.int .i64 px)).setCell ⟨w2.heap.size, 1, none⟩ (.int .i64 py)) = wq at *
              have bx0 : wq.cell? ⟨w2.heap.size, 0, none⟩ = some (.int .i64 px) := (blk_cell HBx5.out 0).trans rfl
              have bx1 : wq.cell? ⟨w2.heap.size, 1, none⟩ = some (.int .i64 py) := (blk_cell HBx5.out 1).trans rfl
              have hBl : w2.heap.size < wq.heap.size := blk_lt HBx5.out
              go_wp2_with fail
              have hsz : w.heap.size ≤ w2.heap.size := HB2.out.size
              have H' := HL
              go_loopg [44] k (fun kq v44 w' => ∃ (i fx fy : Int) (cv : Bool) (kx ky : Int) (xs : List S37), v44 = .int .i64 i ∧ Aside0 (outline_Segs.l0 kq l0 s1 i px py fx fy cv kx ky xs = some r) ∧ Aside0 (kq ≤ k) ∧ Aside0 (outline_Segs.St w w' (wq.heap.size + 1) (wq.heap.size + 1 + 1 + 1) (wq.heap.size + 1 + 1) (wq.heap.size) fx fy cv kx ky xs) ∧ Aside0 (w'.heap[w2.heap.size]? = some (.cells #[.int .i64 px, .int .i64 py] 33 (0, 0))))
              case atStart =>
                refine ⟨0, px, py, false, 0, 0, [], rfl, H', ⟨Nat.le_refl _⟩, ⟨?_, ?_, ?_, ⟨.slice none 0 0, ?_, Kd.R_nil _ _ _ _ _⟩, ?_⟩, ⟨?_⟩⟩
                · exact blk_alloc (blk_alloc (Aid.blk_top _ _ _ (by simp)) _) _
                · exact Aid.blk_top _ _ _ (by simp)
                · exact blk_alloc (Aid.blk_top _ _ _ (by simp)) _
                · exact blk_alloc (blk_alloc (blk_alloc (Aid.blk_top _ _ _ (by simp)) _) _) _
                · exact below_alloc (below_alloc (below_alloc (below_alloc HB5.out _) _) _) _
                · exact blk_alloc (blk_alloc (blk_alloc (blk_alloc HBx5.out _) _) _) _
              case round =>
                clear H' HL
                obtain ⟨i, fx, fy, cv, kx, ky, xs, rfl, HA, HK1, HSt, HBk⟩ := hrel
                cases gk with
                | zero => exact absurd HA.out (by simp [outline_Segs.l0])
                | succ k1 =>
                  by_cases ci : i < (l0.length : Int)
                  · obtain ⟨j, hj, j0, j1, hway⟩ := outline_Segs.l0_step HA.out ci
                    have cib : decide (i < (l0.length : Int)) = true := decide_eq_true ci
                    clear ci HA
                    have hBr := HSt.out.2.2.2.2
                    obtain ⟨ad', ea, e0, e1, e2⟩ := at_T39 (Kd.C_below HC.out hBr) j j0 j1
                    obtain rfl := Option.some.inj ea
                    clear ea hBr
                    generalize rd_T39 l0 j = el at *
                    obtain ⟨ex, ey, eo⟩ := el
                    simp only at e0 e1 e2
                    rcases hway with ⟨q, i0, xs', ht, H⟩ | ⟨q, i0, H⟩ | ⟨q, rfl, mx, my, xs', hm, ht, H⟩ | ⟨q, rfl, H⟩ <;> replace q := (show eo = _ from q) <;> subst q
                    · have HT := Aside0.mk ht
                      have HL := Aside0.mk H
                      have i0b : decide (0 < i) = true := decide_eq_true i0
                      clear i0 ht H
                      go_wp2_with fail
                      (with_reducible refine (outline_place.calls _ _ _ _ _ _ rfl).mono ?_)
                      rintro e w3 ⟨rfl, hb3⟩
                      have HBk := Aside0.mk (blk_below (blk_alloc HBk.out _) hb3)
                      have HSt := Aside0.mk ((HSt.out.alloc _).below hb3)
                      clear hb3 e0 e1 e2
                      go_wp2_with fail
                      (with_reducible refine (outline_Segs.to_calls ex ey HSt.out (by omega) (by omega) (by omega) (by omega) HT.out).mono ?_)
                      rintro e w4 ⟨rfl, hSt, hfr⟩
                      have HBk := Aside0.mk (hfr _ _ _ HBk.out (by omega) (by omega) (by omega) (by omega) (by decide))
                      have HSt := Aside0.mk hSt
                      clear hSt hfr
                      go_wp2_with fail
                      go_roundg k1
                      case measure => have := HK1.out; omega
                      case rel => exact ⟨_, _, _, _, _, _, _, rfl, HL, ⟨by have := HK1.out; omega⟩, HSt, HBk⟩
                    · have HL := Aside0.mk H
                      have i0b : decide (0 < i) = false := decide_eq_false i0
                      clear i0 H
                      go_wp2_with fail
                      go_roundg k1
                      case measure => have := HK1.out; omega
                      case rel => exact ⟨_, _, _, _, _, _, _, rfl, HL, ⟨by have := HK1.out; omega⟩, ⟨HSt.out.alloc _⟩, ⟨blk_alloc HBk.out _⟩⟩
                    · have HM := Aside0.mk hm
                      have HT := Aside0.mk ht
                      have HL := Aside0.mk H
                      clear hm ht H
                      have jC : wr.cell? ⟨wq.heap.size + 1 + 1 + 1, 0, none⟩ = some (.bool true) := (blk_cell HSt.out.2.1 0).trans rfl
                      have lC : wq.heap.size + 1 + 1 + 1 < wr.heap.size := blk_lt HSt.out.2.1
                      go_wp2_with fail
                      have HSt := Aside0.mk ((HSt.out.alloc (.cells #[.int .i64 ex, .int .i64 ey, .bool false] 39 (0, 0))).below (below_drew1 (Below.refl _ _)))
                      have HBk := Aside0.mk (blk_below (blk_alloc HBk.out (.cells #[.int .i64 ex, .int .i64 ey, .bool false] 39 (0, 0))) (below_drew1 (Below.refl _ _)))
                      have HEk := Aside0.mk (blk_below (blk_new wr (.cells #[.int .i64 ex, .int .i64 ey, .bool false] 39 (0, 0))) (below_drew1 (Below.refl _ _)))
                      have jK0 := (blk_cell HSt.out.2.2.1 0).trans rfl
                      have jK1 := (blk_cell HSt.out.2.2.1 1).trans rfl
                      have jE0 := (blk_cell HEk.out 0).trans rfl
                      have jE1 := (blk_cell HEk.out 1).trans rfl
                      have jE2 := (blk_cell HEk.out 2).trans rfl
                      clear e0 e1 e2
                      go_region_held3 (fun w' => w'.cell? ⟨wq.heap.size + 1 + 1, 0, none⟩ = some (.int .i64 kx) ∧ w'.cell? ⟨wq.heap.size + 1 + 1, 1, none⟩ = some (.int .i64 ky) ∧ w'.cell? ⟨wr.heap.size, 0, none⟩ = some (.int .i64 ex) ∧ w'.cell? ⟨wr.heap.size, 1, none⟩ = some (.int .i64 ey) ∧ w'.cell? ⟨wr.heap.size, 2, none⟩ = some (.bool false))
                        (first | exact ⟨jK0, jK1, jE0, jE1, jE2⟩)
                        (first
                          | (go_at_call 47; (with_reducible refine (outline_place.calls _ _ _ _ _ _ rfl).mono ?_); rintro e w3 ⟨rfl, hb3⟩; have HBk := Aside0.mk (blk_below HBk.out hb3); have HSt := Aside0.mk (HSt.out.below hb3); have HEk := Aside0.mk (blk_below HEk.out hb3); have jK0 := (blk_cell HSt.out.2.2.1 0).trans rfl; have jK1 := (blk_cell HSt.out.2.2.1 1).trans rfl; have jE0 := (blk_cell HEk.out 0).trans rfl; have jE1 := (blk_cell HEk.out 1).trans rfl; have jE2 := (blk_cell HEk.out 2).trans rfl)
                          | (go_at_call 20; (with_reducible refine (outline_Mid.calls _ _ _ _ _ _ _ HM.out).mono ?_); rintro e w4 ⟨rfl, hb4⟩; have HBk := Aside0.mk (blk_below HBk.out hb4); have HSt := Aside0.mk (HSt.out.below hb4); have HEk := Aside0.mk (blk_below HEk.out hb4); have jK0 := (blk_cell HSt.out.2.2.1 0).trans rfl; have jK1 := (blk_cell HSt.out.2.2.1 1).trans rfl; have jE0 := (blk_cell HEk.out 0).trans rfl; have jE1 := (blk_cell HEk.out 1).trans rfl; have jE2 := (blk_cell HEk.out 2).trans rfl)
                          | (go_at_call 48; (with_reducible refine (outline_Segs.to_calls mx my HSt.out (by omega) (by omega) (by omega) (by omega) HT.out).mono ?_); rintro e w5 ⟨rfl, hSt, hfr⟩; have HBk := Aside0.mk (hfr _ _ _ HBk.out (by omega) (by omega) (by omega) (by omega) (by decide)); have HEk := Aside0.mk (hfr _ _ _ HEk.out (by omega) (by omega) (by omega) (by omega) (by decide)); have HSt := Aside0.mk hSt; have jK0 := (blk_cell HSt.out.2.2.1 0).trans rfl; have jK1 := (blk_cell HSt.out.2.2.1 1).trans rfl; have jE0 := (blk_cell HEk.out 0).trans rfl; have jE1 := (blk_cell HEk.out 1).trans rfl; have jE2 := (blk_cell HEk.out 2).trans rfl))
                      go_wp2_with fail
                      (with_reducible refine (outline_place.calls _ _ _ _ _ _ rfl).mono ?_)
                      rintro e w7 ⟨rfl, hb7⟩
                      have HBk := Aside0.mk (blk_below HBk.out hb7)
                      have HSt := Aside0.mk (HSt.out.below hb7)
                      have jK0 := (blk_cell HSt.out.2.2.1 0).trans rfl
                      have jK1 := (blk_cell HSt.out.2.2.1 1).trans rfl
                      have jC := (blk_cell HSt.out.2.1 0).trans rfl
                      have eK0 := blk_frozen HSt.out.2.2.1 0
                      have eK1 := blk_frozen HSt.out.2.2.1 1
                      have eC0 := blk_frozen HSt.out.2.1 0
                      clear hb7 jE0 jE1 jE2
                      go_wp2_with fail
                      go_roundg k1
                      case measure => have := HK1.out; omega
                      case rel => exact ⟨_, _, _, _, _, _, _, rfl, HL, ⟨by have := HK1.out; omega⟩, ⟨HSt.out.control ex ey (by omega) (by omega) (by omega)⟩, ⟨blk_far (p := ⟨wq.heap.size + 1 + 1 + 1, 0, none⟩) (blk_far (p := ⟨wq.heap.size + 1 + 1, 1, none⟩) (blk_far (p := ⟨wq.heap.size + 1 + 1, 0, none⟩) HBk.out (show w2.heap.size ≠ wq.heap.size + 1 + 1 by omega) _) (show w2.heap.size ≠ wq.heap.size + 1 + 1 by omega) _) (show w2.heap.size ≠ wq.heap.size + 1 + 1 + 1 by omega) _⟩⟩
                    · have HL := Aside0.mk H
                      clear H
                      have jC : wr.cell? ⟨wq.heap.size + 1 + 1 + 1, 0, none⟩ = some (.bool false) := (blk_cell HSt.out.2.1 0).trans rfl
                      have lC : wq.heap.size + 1 + 1 + 1 < wr.heap.size := blk_lt HSt.out.2.1
                      go_wp2_with fail
                      (with_reducible refine (outline_place.calls _ _ _ _ _ _ rfl).mono ?_)
                      rintro e w7 ⟨rfl, hb7⟩
                      have HBk := Aside0.mk (blk_below (blk_alloc HBk.out _) hb7)
                      have HSt := Aside0.mk ((HSt.out.alloc _).below hb7)
                      have jK0 := (blk_cell HSt.out.2.2.1 0).trans rfl
                      have jK1 := (blk_cell HSt.out.2.2.1 1).trans rfl
                      have jC := (blk_cell HSt.out.2.1 0).trans rfl
                      have eK0 := blk_frozen HSt.out.2.2.1 0
                      have eK1 := blk_frozen HSt.out.2.2.1 1
                      have eC0 := blk_frozen HSt.out.2.1 0
                      clear hb7
                      go_wp2_with fail
                      go_roundg k1
                      case measure => have := HK1.out; omega
                      case rel => exact ⟨_, _, _, _, _, _, _, rfl, HL, ⟨by have := HK1.out; omega⟩, ⟨HSt.out.control ex ey (by omega) (by omega) (by omega)⟩, ⟨blk_far (p := ⟨wq.heap.size + 1 + 1 + 1, 0, none⟩) (blk_far (p := ⟨wq.heap.size + 1 + 1, 1, none⟩) (blk_far (p := ⟨wq.heap.size + 1 + 1, 0, none⟩) HBk.out (show w2.heap.size ≠ wq.heap.size + 1 + 1 by omega) _) (show w2.heap.size ≠ wq.heap.size + 1 + 1 by omega) _) (show w2.heap.size ≠ wq.heap.size + 1 + 1 + 1 by omega) _⟩⟩
                  · have H := HA.out
                    clear HA
                    unfold outline_Segs.l0 at H
                    rw [if_neg ci] at H
                    have cib : decide (i < (l0.length : Int)) = false := decide_eq_false ci
                    clear ci
                    have HL := Aside0.mk H
                    clear H
                    have jB0 : wr.cell? ⟨w2.heap.size, 0, none⟩ = some (.int .i64 px) := (blk_cell HBk.out 0).trans rfl
                    have jB1 : wr.cell? ⟨w2.heap.size, 1, none⟩ = some (.int .i64 py) := (blk_cell HBk.out 1).trans rfl
                    go_wp2_with fail
                    (with_reducible refine (outline_Segs.to_calls px py HSt.out (by omega) (by omega) (by omega) (by omega) HL.out).mono ?_)
                    rintro e w3 ⟨rfl, hSt, hfr⟩
                    obtain ⟨hF, hC, hK, ⟨v, hO, hR⟩, hB⟩ := hSt
                    obtain ⟨A1, c1, rfl⟩ := Kd.R_slice hR
                    have HR := Aside0.mk hR
                    have HB3 := Aside0.mk hB
                    have jO : w3.cell? ⟨wq.heap.size, 0, none⟩ = some (.slice A1 r.length c1) := (blk_cell hO 0).trans rfl
                    clear hF hC hK hO hR hB hfr
                    go_wp2_with fail
                    go_ret
                    exact ⟨_, rfl, HR.out, HB3.out⟩
            · rw [if_neg q1] at H; cases H
          · rw [if_neg q0] at H; cases H
      · rw [if_neg hs1] at h; cases h
    · rw [if_neg hs0] at h; cases h

end Go.Proofs.Ytoghjnmcimniaaa.O
