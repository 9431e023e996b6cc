/- What Go functions answer, as Lean functions, and that they do: written by wip/xprint.py of this session (the kit's printer with turns, texts by hand among them). -/
import Derived.Test.YtiicdgimffpckaaW0
import Derived.Test.YtiicdgimffpckaaWd0
namespace Go.Proofs.Ytiicdgimffpckaa.W
open Go.RowKit Go.Proofs.YtiicdgimffpckaaW.PrintWords Go.Proofs.YtiicdgimffpckaaW.PrintLast Go.Proofs.YtiicdgimffpckaaW.PrintMore
attribute [local go_sem] max2_int min2_int max_two min_two max_three min_three max_four min_four   -- for this text's walks alone
set_option linter.unusedVariables false
set_option linter.unusedSimpArgs false

/-! ### calamusref01_Add: function 34 -/
-- CALLS
theorem calamusref01_Add.st_len (a b : List Int) : ∀ i, (calamusref01_Add.st a b i).1.length = 8
  | 0 => rfl
  | i + 1 => by rw [calamusref01_Add.st, List.length_set]; exact calamusref01_Add.st_len a b i
theorem calamusref01_Add.st_succ (a b : List Int) (i : Nat) : calamusref01_Add.st a b (i + 1) =
    ((calamusref01_Add.st a b i).1.set i ((a.getD i 0 + b.getD i 0 + (calamusref01_Add.st a b i).2) % 65536), (a.getD i 0 + b.getD i 0 + (calamusref01_Add.st a b i).2) % 4294967296 / 65536) := rfl
set_option maxRecDepth 100000 in
theorem calamusref01_Add.addr (i : Nat) (hi : i < 8) : ∀ (b o : Nat) (W : World), (Instr.indexAt 34 (.pointer (some ⟨b, o, none⟩)) (.int .i64 (i : Int))).run Try.prog W = .ok (.pointer (some ⟨b, o + i, none⟩)) W := by
  intro b o W
  have : i = 0 ∨ i = 1 ∨ i = 2 ∨ i = 3 ∨ i = 4 ∨ i = 5 ∨ i = 6 ∨ i = 7 := by omega
  rcases this with rfl | rfl | rfl | rfl | rfl | rfl | rfl | rfl <;> rfl
theorem calamusref01_Add.cell {W : World} {g : Nat} {l : List Int} (h : W.heap[g]? = some (.cells (nums .u32 l).toArray 34 (0, 0))) (i : Nat) (hi : i < l.length) : W.cell? ⟨g, i, none⟩ = some (.int .u32 (l.getD i 0)) := by
  rw [blk_cell h i]
  simp [nums, hi]
theorem calamusref01_Add.put {W : World} {g : Nat} {l : List Int} (h : W.heap[g]? = some (.cells (nums .u32 l).toArray 34 (0, 0))) (i : Nat) (x : Int) : (W.setCell ⟨g, i, none⟩ (.int .u32 x)).heap[g]? = some (.cells (nums .u32 (l.set i x)).toArray 34 (0, 0)) := by
  have h1 := blk_set h i (.int .u32 x)
  rw [h1]
  congr 2
  simp [nums, List.map_set]
theorem calamusref01_Add.eight {l : List Int} (h : l.length = 8) : ∃ x0 x1 x2 x3 x4 x5 x6 x7, l = [x0, x1, x2, x3, x4, x5, x6, x7] := by
  match l, h with
  | [x0, x1, x2, x3, x4, x5, x6, x7], _ => exact ⟨x0, x1, x2, x3, x4, x5, x6, x7, rfl⟩
theorem calamusref01_Add.fill {W : World} {g : Nat} {x0 x1 x2 x3 x4 x5 x6 x7 : Int} (h : W.heap[g]? = some (.cells #[.int .u32 0, .int .u32 0, .int .u32 0, .int .u32 0, .int .u32 0, .int .u32 0, .int .u32 0, .int .u32 0] 34 (0, 0))) :
    ((((((((W.setCell ⟨g, 0, none⟩ (.int .u32 x0)).setCell ⟨g, 1, none⟩ (.int .u32 x1)).setCell ⟨g, 2, none⟩ (.int .u32 x2)).setCell ⟨g, 3, none⟩ (.int .u32 x3)).setCell ⟨g, 4, none⟩ (.int .u32 x4)).setCell ⟨g, 5, none⟩ (.int .u32 x5)).setCell ⟨g, 6, none⟩ (.int .u32 x6)).setCell ⟨g, 7, none⟩ (.int .u32 x7)).heap[g]? =
      some (.cells #[.int .u32 x0, .int .u32 x1, .int .u32 x2, .int .u32 x3, .int .u32 x4, .int .u32 x5, .int .u32 x6, .int .u32 x7] 34 (0, 0)) := by
  have h0 := blk_put (cs' := #[.int .u32 x0, .int .u32 0, .int .u32 0, .int .u32 0, .int .u32 0, .int .u32 0, .int .u32 0, .int .u32 0]) h 0 (.int .u32 x0) rfl
  have h1 := blk_put (cs' := #[.int .u32 x0, .int .u32 x1, .int .u32 0, .int .u32 0, .int .u32 0, .int .u32 0, .int .u32 0, .int .u32 0]) h0 1 (.int .u32 x1) rfl
  have h2 := blk_put (cs' := #[.int .u32 x0, .int .u32 x1, .int .u32 x2, .int .u32 0, .int .u32 0, .int .u32 0, .int .u32 0, .int .u32 0]) h1 2 (.int .u32 x2) rfl
  have h3 := blk_put (cs' := #[.int .u32 x0, .int .u32 x1, .int .u32 x2, .int .u32 x3, .int .u32 0, .int .u32 0, .int .u32 0, .int .u32 0]) h2 3 (.int .u32 x3) rfl
  have h4 := blk_put (cs' := #[.int .u32 x0, .int .u32 x1, .int .u32 x2, .int .u32 x3, .int .u32 x4, .int .u32 0, .int .u32 0, .int .u32 0]) h3 4 (.int .u32 x4) rfl
  have h5 := blk_put (cs' := #[.int .u32 x0, .int .u32 x1, .int .u32 x2, .int .u32 x3, .int .u32 x4, .int .u32 x5, .int .u32 0, .int .u32 0]) h4 5 (.int .u32 x5) rfl
  have h6 := blk_put (cs' := #[.int .u32 x0, .int .u32 x1, .int .u32 x2, .int .u32 x3, .int .u32 x4, .int .u32 x5, .int .u32 x6, .int .u32 0]) h5 6 (.int .u32 x6) rfl
  have h7 := blk_put (cs' := #[.int .u32 x0, .int .u32 x1, .int .u32 x2, .int .u32 x3, .int .u32 x4, .int .u32 x5, .int .u32 x6, .int .u32 x7]) h6 7 (.int .u32 x7) rfl
  exact h7
/-- What stands in memory. -/
structure calamusref01_Add.St (w wr : World) (a b n : List Int) : Prop where
  A : wr.heap[w.heap.size]? = some (.cells (nums .u32 a).toArray 34 (0, 0))
  B : wr.heap[w.heap.size + 1]? = some (.cells (nums .u32 b).toArray 34 (0, 0))
  R : wr.heap[w.heap.size + 1 + 1]? = some (.cells (nums .u32 [0, 0, 0, 0, 0, 0, 0, 0]).toArray 34 (0, 0))
  N : wr.heap[w.heap.size + 1 + 1 + 1]? = some (.cells (nums .u32 n).toArray 34 (0, 0))
  L : Below w.heap.size w wr
theorem calamusref01_Add.St.put {w wr : World} {a b n : List Int} (h : calamusref01_Add.St w wr a b n) (i : Nat) (x : Int) : calamusref01_Add.St w (wr.setCell ⟨w.heap.size + 1 + 1 + 1, i, none⟩ (.int .u32 x)) a b (n.set i x) :=
  ⟨blk_far (p := ⟨w.heap.size + 1 + 1 + 1, i, none⟩) h.A (by simp; omega) _, blk_far (p := ⟨w.heap.size + 1 + 1 + 1, i, none⟩) h.B (by simp) _, blk_far (p := ⟨w.heap.size + 1 + 1 + 1, i, none⟩) h.R (by simp) _, calamusref01_Add.put h.N i x, below_set h.L (by omega)⟩
theorem calamusref01_Add.St.drewN {w wr : World} {a b n : List Int} (h : calamusref01_Add.St w wr a b n) (m : Nat) : calamusref01_Add.St w (wr.drewN m) a b n := ⟨blk_drewN h.A m, blk_drewN h.B m, blk_drewN h.R m, blk_drewN h.N m, pw_below_drewN h.L m⟩
set_option maxHeartbeats 16000000 in
set_option maxRecDepth 100000 in
theorem calamusref01_Add.walk (a b r : List Int) (ha : a.length = 8) (hb : b.length = 8) (w : World) (hr : (calamusref01_Add.st a b 8).1 = r) :
    Calls Try.prog 34 #[.agg (nums .u32 a).toArray, .agg (nums .u32 b).toArray] w fun e w' => e = .returned (.agg (nums .u32 r).toArray) ∧ Below w.heap.size w w' := by
  have hu1 := Try.underlying34
  have hu2 := Try.underlying32
  have hu3 := Try.underlying3
  have HA := Aside0.mk ha
  have HB := Aside0.mk hb
  have HR := Aside0.mk hr
  clear ha hb hr
  go_enter Try.func34, Try.ntmps34
  go_wp2
  go_loopw [6, 7, 8] (fun cv iv _ wr => ∃ i : Nat, i ≤ 8 ∧ iv = .int .i64 (i : Int) ∧ cv = .int .u32 (calamusref01_Add.st a b i).2 ∧ Aside0 (calamusref01_Add.St w wr a b (calamusref01_Add.st a b i).1)) (fun _ iv _ _ => 8 - (intOf iv).toNat)
  case atStart => exact ⟨0, Nat.zero_le _, rfl, rfl, ⟨⟨blk_alloc (blk_alloc (blk_alloc (blk_new _ _) _) _) _, blk_alloc (blk_alloc (Aid.blk_top _ _ _ (by simp)) _) _, blk_alloc (Aid.blk_top _ _ _ (by simp)) _, Aid.blk_top _ _ _ (by simp), below_alloc (below_alloc (below_alloc (below_alloc (Below.refl _ _) _) _) _) _⟩⟩⟩
  case round =>
    obtain ⟨i, hi8, rfl, rfl, hS⟩ := hrel
    by_cases hlt : i < 8
    · have hlt' : decide ((i : Int) < 8) = true := decide_eq_true (by omega)
      have hlen : (calamusref01_Add.st a b i).1.length = 8 := calamusref01_Add.st_len a b i
      have hc1 := calamusref01_Add.cell hS.out.A i (by have := HA.out; omega)
      have hc2 := calamusref01_Add.cell hS.out.B i (by have := HB.out; omega)
      have hc3 := calamusref01_Add.cell hS.out.N i (by omega)
      have hf3 := blk_frozen hS.out.N i
      have hx1 := calamusref01_Add.addr i hlt
      have hnx := calamusref01_Add.st_succ a b i
      have HNX := Aside0.mk hnx
      have HS := hS
      clear hnx hlen hS
      generalize calamusref01_Add.st a b i = q at *
      generalize a.getD i 0 = av at *
      generalize b.getD i 0 = bv at *
      go_wp2
      go_quiet (fail)
      go_wp2
      go_roundw
      case rel =>
        exact ⟨i + 1, by omega, by go_num, by rw [HNX.out], ⟨by rw [HNX.out]; exact (HS.out.drewN _).put i _⟩⟩
      case measure => simp [intOf]; omega
    · obtain rfl : i = 8 := by omega
      rw [HR.out] at hS
      have hrl : r.length = 8 := by rw [← HR.out]; exact calamusref01_Add.st_len a b 8
      obtain ⟨x0, x1, x2, x3, x4, x5, x6, x7, rfl⟩ := calamusref01_Add.eight hrl
      have hN : wr.heap[w.heap.size + 1 + 1 + 1]? = some (.cells #[.int .u32 x0, .int .u32 x1, .int .u32 x2, .int .u32 x3, .int .u32 x4, .int .u32 x5, .int .u32 x6, .int .u32 x7] 34 (0, 0)) := hS.out.N
      have hR : wr.heap[w.heap.size + 1 + 1]? = some (.cells #[.int .u32 0, .int .u32 0, .int .u32 0, .int .u32 0, .int .u32 0, .int .u32 0, .int .u32 0, .int .u32 0] 34 (0, 0)) := hS.out.R
      have hn0 : wr.cell? ⟨w.heap.size + 1 + 1 + 1, 0, none⟩ = some (.int .u32 x0) := (blk_cell hN 0).trans rfl
      have hz0 : wr.cell? ⟨w.heap.size + 1 + 1, 0, none⟩ = some (.int .u32 0) := (blk_cell hR 0).trans rfl
      have hf0 := blk_frozen hR 0
      have hn1 : wr.cell? ⟨w.heap.size + 1 + 1 + 1, 1, none⟩ = some (.int .u32 x1) := (blk_cell hN 1).trans rfl
      have hz1 : wr.cell? ⟨w.heap.size + 1 + 1, 1, none⟩ = some (.int .u32 0) := (blk_cell hR 1).trans rfl
      have hf1 := blk_frozen hR 1
      have hn2 : wr.cell? ⟨w.heap.size + 1 + 1 + 1, 2, none⟩ = some (.int .u32 x2) := (blk_cell hN 2).trans rfl
      have hz2 : wr.cell? ⟨w.heap.size + 1 + 1, 2, none⟩ = some (.int .u32 0) := (blk_cell hR 2).trans rfl
      have hf2 := blk_frozen hR 2
      have hn3 : wr.cell? ⟨w.heap.size + 1 + 1 + 1, 3, none⟩ = some (.int .u32 x3) := (blk_cell hN 3).trans rfl
      have hz3 : wr.cell? ⟨w.heap.size + 1 + 1, 3, none⟩ = some (.int .u32 0) := (blk_cell hR 3).trans rfl
      have hf3 := blk_frozen hR 3
      have hn4 : wr.cell? ⟨w.heap.size + 1 + 1 + 1, 4, none⟩ = some (.int .u32 x4) := (blk_cell hN 4).trans rfl
      have hz4 : wr.cell? ⟨w.heap.size + 1 + 1, 4, none⟩ = some (.int .u32 0) := (blk_cell hR 4).trans rfl
      have hf4 := blk_frozen hR 4
      have hn5 : wr.cell? ⟨w.heap.size + 1 + 1 + 1, 5, none⟩ = some (.int .u32 x5) := (blk_cell hN 5).trans rfl
      have hz5 : wr.cell? ⟨w.heap.size + 1 + 1, 5, none⟩ = some (.int .u32 0) := (blk_cell hR 5).trans rfl
      have hf5 := blk_frozen hR 5
      have hn6 : wr.cell? ⟨w.heap.size + 1 + 1 + 1, 6, none⟩ = some (.int .u32 x6) := (blk_cell hN 6).trans rfl
      have hz6 : wr.cell? ⟨w.heap.size + 1 + 1, 6, none⟩ = some (.int .u32 0) := (blk_cell hR 6).trans rfl
      have hf6 := blk_frozen hR 6
      have hn7 : wr.cell? ⟨w.heap.size + 1 + 1 + 1, 7, none⟩ = some (.int .u32 x7) := (blk_cell hN 7).trans rfl
      have hz7 : wr.cell? ⟨w.heap.size + 1 + 1, 7, none⟩ = some (.int .u32 0) := (blk_cell hR 7).trans rfl
      have hf7 := blk_frozen hR 7
      have HRR := Aside0.mk hR
      have HL := Aside0.mk hS.out.L
      clear hN hR hS hrl
      go_wp2
      refine bodyPost_ret (results_cell_row rfl _ _ (w.heap.size + 1 + 1) 34 #[.int .u32 x0, .int .u32 x1, .int .u32 x2, .int .u32 x3, .int .u32 x4, .int .u32 x5, .int .u32 x6, .int .u32 x7] (0, 0) _ rfl ?_ Try.underlying34 rfl (by kernel_rfl)) rfl ?_
      · exact calamusref01_Add.fill HRR.out
      · exact ⟨rfl, below_set (below_set (below_set (below_set (below_set (below_set (below_set (below_set HL.out (by omega)) (by omega)) (by omega)) (by omega)) (by omega)) (by omega)) (by omega)) (by omega)⟩
theorem calamusref01_Add.calls (a0_0 a0_1 a0_2 a0_3 a0_4 a0_5 a0_6 a0_7 a1_0 a1_1 a1_2 a1_3 a1_4 a1_5 a1_6 a1_7 : Int) (r1 r2 r3 r4 r5 r6 r7 r8 : Int) (w : World) (h : calamusref01_Add.f a0_0 a0_1 a0_2 a0_3 a0_4 a0_5 a0_6 a0_7 a1_0 a1_1 a1_2 a1_3 a1_4 a1_5 a1_6 a1_7 = some (r1, r2, r3, r4, r5, r6, r7, r8)) :
    Calls Try.prog 34 #[.agg #[.int .u32 a0_0, .int .u32 a0_1, .int .u32 a0_2, .int .u32 a0_3, .int .u32 a0_4, .int .u32 a0_5, .int .u32 a0_6, .int .u32 a0_7], .agg #[.int .u32 a1_0, .int .u32 a1_1, .int .u32 a1_2, .int .u32 a1_3, .int .u32 a1_4, .int .u32 a1_5, .int .u32 a1_6, .int .u32 a1_7]] w fun e w' => e = .returned (.agg #[.int .u32 r1, .int .u32 r2, .int .u32 r3, .int .u32 r4, .int .u32 r5, .int .u32 r6, .int .u32 r7, .int .u32 r8]) ∧ Below w.heap.size w w' := by
  unfold calamusref01_Add.f at h
  obtain ⟨x0, x1, x2, x3, x4, x5, x6, x7, hx⟩ := calamusref01_Add.eight (calamusref01_Add.st_len [a0_0, a0_1, a0_2, a0_3, a0_4, a0_5, a0_6, a0_7] [a1_0, a1_1, a1_2, a1_3, a1_4, a1_5, a1_6, a1_7] 8)
  rw [hx] at h
  simp only [calamusref01_Add.tup, Option.some.injEq, Prod.mk.injEq] at h
  obtain ⟨rfl, rfl, rfl, rfl, rfl, rfl, rfl, rfl⟩ := h
  exact calamusref01_Add.walk _ _ _ rfl rfl w hx

end Go.Proofs.Ytiicdgimffpckaa.W
