/- What Go functions answer, as Lean functions, and that they do: written by wip/xprint.py of this session (the kit's printer with turns, texts by hand among them). -/
import Derived.Test.YtgibokbkobcnaaaG0
import Derived.Test.YtgibokbkobcnaaaGd0
import Derived.Test.YtgibokbkobcnaaaGf19
import Derived.Test.YtgibokbkobcnaaaGf16
namespace Go.Proofs.Ytgibokbkobcnaaa.G
open Go.RowKit Go.Proofs.YtgibokbkobcnaaaW.PrintWords Go.Proofs.YtgibokbkobcnaaaW.PrintLast Go.Proofs.YtgibokbkobcnaaaW.PrintMore
attribute [local go_sem] max2_int min2_int max_two min_two max_three min_three max_four min_four   -- for this text's walks alone
set_option linter.unusedVariables false
set_option linter.unusedSimpArgs false

/-! ### gauss_Times: function 18 -/
-- CALLS
theorem gauss_Times.prod_ok {a b c d : Int} (h1 : -4194304 ≤ a ∧ a ≤ 4194304 ∧ -4194304 ≤ b ∧ b ≤ 4194304) (h2 : -4194304 ≤ c ∧ c ≤ 4194304 ∧ -4194304 ≤ d ∧ d ≤ 4194304) :
    ∃ re im, cMulBits (Fl.of a) (Fl.of b) (Fl.of c) (Fl.of d) = some (re, im) ∧ Fl.Is re (a * c - b * d) ∧ Fl.Is im (a * d + b * c) :=
  Fl.cmul (gauss_Cross.isof ⟨h1.1, h1.2.1⟩) (gauss_Cross.isof ⟨h1.2.2.1, h1.2.2.2⟩) (gauss_Cross.isof ⟨h2.1, h2.2.1⟩) (gauss_Cross.isof ⟨h2.2.2.1, h2.2.2.2⟩)
    (gauss_Cross.abs_mul ⟨h1.1, h1.2.1⟩ ⟨h2.1, h2.2.1⟩) (gauss_Cross.abs_mul ⟨h1.2.2.1, h1.2.2.2⟩ ⟨h2.2.2.1, h2.2.2.2⟩) (gauss_Cross.abs_mul ⟨h1.1, h1.2.1⟩ ⟨h2.2.2.1, h2.2.2.2⟩) (gauss_Cross.abs_mul ⟨h1.2.2.1, h1.2.2.2⟩ ⟨h2.1, h2.2.1⟩)
set_option maxHeartbeats 4000000 in
set_option maxRecDepth 100000 in
theorem gauss_Times.calls (a0_0 a0_1 a1_0 a1_1 : Int) (r1 r2 r3 : Int) (w : World) (h : gauss_Times.f a0_0 a0_1 a1_0 a1_1 = some (r1, r2, r3)) :
    Calls Try.prog 18 #[.agg #[.int .i64 a0_0, .int .i64 a0_1], .agg #[.int .i64 a1_0, .int .i64 a1_1]] w fun e w' => e = .returned (.tuple #[.agg #[.int .i64 r1, .int .i64 r2], .int .i64 r3]) ∧ Below w.heap.size w w' := by
  have huP := Try.underlying23
  have huC := Try.underlying78
  have huF := Try.underlying77
  have huI := Try.underlying3
  have hG0 := gauss_Cross.good2 0 a0_0 a0_1 a1_0 a1_1
  unfold gauss_Times.f at h
  have HBW : Below w.heap.size w (((w.alloc (.cells #[.int .i64 a0_0, .int .i64 a0_1] 23 (0, 0))).alloc (.cells #[.int .i64 a1_0, .int .i64 a1_1] 23 (0, 0))).alloc (.cells #[.int .i64 0, .int .i64 0] 23 (0, 0))) := below_alloc (below_alloc (below_alloc (Below.refl _ _) _) _) _
  have hk0 : (((w.alloc (.cells #[.int .i64 a0_0, .int .i64 a0_1] 23 (0, 0))).alloc (.cells #[.int .i64 a1_0, .int .i64 a1_1] 23 (0, 0))).alloc (.cells #[.int .i64 0, .int .i64 0] 23 (0, 0))).heap[w.heap.size]? = some (.cells #[.int .i64 a0_0, .int .i64 a0_1] 23 (0, 0)) := blk_alloc (blk_alloc (Aid.blk_top _ _ _ (by simp)) _) _
  have hk1 : (((w.alloc (.cells #[.int .i64 a0_0, .int .i64 a0_1] 23 (0, 0))).alloc (.cells #[.int .i64 a1_0, .int .i64 a1_1] 23 (0, 0))).alloc (.cells #[.int .i64 0, .int .i64 0] 23 (0, 0))).heap[w.heap.size + 1]? = some (.cells #[.int .i64 a1_0, .int .i64 a1_1] 23 (0, 0)) := blk_alloc (Aid.blk_top _ _ _ (by simp)) _
  have hk2 : (((w.alloc (.cells #[.int .i64 a0_0, .int .i64 a0_1] 23 (0, 0))).alloc (.cells #[.int .i64 a1_0, .int .i64 a1_1] 23 (0, 0))).alloc (.cells #[.int .i64 0, .int .i64 0] 23 (0, 0))).heap[w.heap.size + 1 + 1]? = some (.cells #[.int .i64 0, .int .i64 0] 23 (0, 0)) := Aid.blk_top _ _ _ (by simp)
  have HK := Aside0.mk (And.intro HBW (And.intro hk0 (And.intro hk1 hk2)))
  clear HBW hk0 hk1 hk2
  cases hg : (gauss_Cross.gd a0_0 a0_1 && gauss_Cross.gd a1_0 a1_1)
  · rw [hg] at hG0 h
    rw [if_neg (by simp)] at h
    simp only [Option.some.injEq, Prod.mk.injEq] at h
    obtain ⟨rfl, rfl, rfl⟩ := h
    have hG := Aside0.mk hG0
    clear hG0 hg
    go_enter Try.func18, Try.ntmps18
    go_wp2_with (first | ((with_reducible refine gate_dst (N := 9) rfl ?_); refine Kd.R_lit k23 _ 23 ?hg (N := 9) ?hd (xs := ([(⟨a0_0, a0_1⟩ : S23), (⟨a1_0, a1_1⟩ : S23)] : List (S23))) (inner := [.int .i64 a0_0, .int .i64 a0_1, .int .i64 a1_0, .int .i64 a1_1]) (ok := fun _ => True) (okp := fun _ => True) ?hr ?hp (fun _ hk => hk) trivial (Below.refl _ _) (Nat.le_refl _) (by simp) ?_; (case hd => rfl); (case hg => rfl); (case hr => first | (go_simp; done) | (go_simp; rfl)); (case hp => exact (Reps.c2 (show Kd.M k23 _ _ _ (⟨a0_0, a0_1⟩ : S23) [.int .i64 a0_0, .int .i64 a0_1] from (k23_mkM _ _ _ (⟨a0_0, a0_1⟩ : S23) )) (Reps.c2 (show Kd.M k23 _ _ _ (⟨a1_0, a1_1⟩ : S23) [.int .i64 a1_0, .int .i64 a1_1] from (k23_mkM _ _ _ (⟨a1_0, a1_1⟩ : S23) )) (Reps.none _ _)))); intro v105 w8 ho9 hb hg_ hnew_; clear hg_ hnew_; have HO := Aside0.mk ho9; have HB8 := Aside0.mk (below_step HK.out.1 hb); have HL8 := Aside0.mk hb; clear hb ho9; obtain ⟨Ao10, co10, eo10⟩ := Kd.R_slice HO.out; subst eo10) | ((with_reducible refine gate_callee (f := 19) rfl ?_); refine goesL_ (some 10) rfl rfl Try.func19 (by kernel_rfl) rfl #[.slice Ao10 ([(⟨a0_0, a0_1⟩ : S23), (⟨a1_0, a1_1⟩ : S23)] : List (S23)).length co10] rfl (by (try simp only [List.map_toArray, List.map_cons, List.map_nil]); first | done | rfl) ?_; (with_reducible refine (gauss_Good.calls _ _ _ ([(⟨a0_0, a0_1⟩ : S23), (⟨a1_0, a1_1⟩ : S23)] : List (S23)) _ _ ?side1 ?side2 hG.out).mono ?_); (case side1 => exact (Kd.R_reads' HO.out).2.2); (case side2 => exact (Kd.R_reads' HO.out).2.1); rintro e w11 ⟨rfl, hb⟩; refine ⟨_, rfl, ?_⟩; have HB := Aside0.mk (below_step HB8.out hb); have HL := Aside0.mk (below_step HL8.out hb); (try clear hb); clear HB8 HL8 HO; have hZ := blk_below HK.out.2.2.2 HL.out; have HZ := Aside0.mk hZ; have hz0 : w11.cell? ⟨w.heap.size + 1 + 1, 0, none⟩ = some (.int .i64 0) := (blk_cell hZ 0).trans rfl; have hz1 : w11.cell? ⟨w.heap.size + 1 + 1, 1, none⟩ = some (.int .i64 0) := (blk_cell hZ 1).trans rfl; have hf0 := blk_frozen hZ 0; have hf1 := blk_frozen hZ 1; clear hZ))
    refine bodyPost_ret (results_ct rfl _ _ (w.heap.size + 1 + 1) 23 #[.int .i64 (0), .int .i64 (0)] (0, 0) _ rfl (by refine blk_put (cs := #[.int .i64 (0), .int .i64 0]) ?_ 1 _ rfl; refine blk_put (cs := #[.int .i64 0, .int .i64 0]) ?_ 0 _ rfl; exact HZ.out) Try.underlying23 rfl (by kernel_rfl)) rfl ?_
    exact ⟨rfl, below_set (below_set HB.out (by omega)) (by omega)⟩
  · rw [hg] at hG0 h
    rw [if_pos rfl] at h
    simp only [Option.some.injEq, Prod.mk.injEq] at h
    obtain ⟨rfl, rfl, rfl⟩ := h
    have hG := Aside0.mk hG0
    have hgg := Bool.and_eq_true_iff.1 hg
    have hg1 := gauss_Cross.gd_iff.1 hgg.1
    have hg2 := gauss_Cross.gd_iff.1 hgg.2
    clear hG0 hg hgg
    obtain ⟨re, im, hmul, hre, him⟩ := gauss_Times.prod_ok hg1 hg2
    have hcr := Fl.toInt hre
    have hci := Fl.toInt him
    clear hre him
    have hm : ∀ W : World, (binOp .mul 78 (.complex .f64 (Fl.of a0_0) (Fl.of a0_1)) (.complex .f64 (Fl.of a1_0) (Fl.of a1_1))).run Try.prog W = .ok (.complex .f64 re im) W := fun W => run_complex_mul W _ _ _ _ _ _ _ hmul
    have hv0 : ∀ W : World, (convert 77 3 (.float .f64 re)).run Try.prog W = .ok (.int .i64 (a0_0 * a1_0 - a0_1 * a1_1)) W := fun W => run_convert_float_int W _ _ _ _ _ _ (by rw [huF]; rfl) huI hcr
    have hv1 : ∀ W : World, (convert 77 3 (.float .f64 im)).run Try.prog W = .ok (.int .i64 (a0_0 * a1_1 + a0_1 * a1_0)) W := fun W => run_convert_float_int W _ _ _ _ _ _ (by rw [huF]; rfl) huI hci
    clear hmul hcr hci hg1 hg2
    go_enter Try.func18, Try.ntmps18
    go_wp2_with (first | ((with_reducible refine gate_dst (N := 9) rfl ?_); refine Kd.R_lit k23 _ 23 ?hg (N := 9) ?hd (xs := ([(⟨a0_0, a0_1⟩ : S23), (⟨a1_0, a1_1⟩ : S23)] : List (S23))) (inner := [.int .i64 a0_0, .int .i64 a0_1, .int .i64 a1_0, .int .i64 a1_1]) (ok := fun _ => True) (okp := fun _ => True) ?hr ?hp (fun _ hk => hk) trivial (Below.refl _ _) (Nat.le_refl _) (by simp) ?_; (case hd => rfl); (case hg => rfl); (case hr => first | (go_simp; done) | (go_simp; rfl)); (case hp => exact (Reps.c2 (show Kd.M k23 _ _ _ (⟨a0_0, a0_1⟩ : S23) [.int .i64 a0_0, .int .i64 a0_1] from (k23_mkM _ _ _ (⟨a0_0, a0_1⟩ : S23) )) (Reps.c2 (show Kd.M k23 _ _ _ (⟨a1_0, a1_1⟩ : S23) [.int .i64 a1_0, .int .i64 a1_1] from (k23_mkM _ _ _ (⟨a1_0, a1_1⟩ : S23) )) (Reps.none _ _)))); intro v105 w8 ho9 hb hg_ hnew_; clear hg_ hnew_; have HO := Aside0.mk ho9; have HB8 := Aside0.mk (below_step HK.out.1 hb); have HL8 := Aside0.mk hb; clear hb ho9; obtain ⟨Ao10, co10, eo10⟩ := Kd.R_slice HO.out; subst eo10) | ((with_reducible refine gate_callee (f := 19) rfl ?_); refine goesL_ (some 10) rfl rfl Try.func19 (by kernel_rfl) rfl #[.slice Ao10 ([(⟨a0_0, a0_1⟩ : S23), (⟨a1_0, a1_1⟩ : S23)] : List (S23)).length co10] rfl (by (try simp only [List.map_toArray, List.map_cons, List.map_nil]); first | done | rfl) ?_; (with_reducible refine (gauss_Good.calls _ _ _ ([(⟨a0_0, a0_1⟩ : S23), (⟨a1_0, a1_1⟩ : S23)] : List (S23)) _ _ ?side1 ?side2 hG.out).mono ?_); (case side1 => exact (Kd.R_reads' HO.out).2.2); (case side2 => exact (Kd.R_reads' HO.out).2.1); rintro e w11 ⟨rfl, hb⟩; refine ⟨_, rfl, ?_⟩; have HB := Aside0.mk (below_step HB8.out hb); have HL := Aside0.mk (below_step HL8.out hb); (try clear hb); clear HB8 HL8 HO; have hZ := blk_below HK.out.2.2.2 HL.out; have HZ := Aside0.mk hZ; have hz0 : w11.cell? ⟨w.heap.size + 1 + 1, 0, none⟩ = some (.int .i64 0) := (blk_cell hZ 0).trans rfl; have hz1 : w11.cell? ⟨w.heap.size + 1 + 1, 1, none⟩ = some (.int .i64 0) := (blk_cell hZ 1).trans rfl; have hf0 := blk_frozen hZ 0; have hf1 := blk_frozen hZ 1; clear hZ))
    have hc0 : w11.cell? ⟨w.heap.size, 0, none⟩ = some (.int .i64 a0_0) := (blk_cell (blk_below HK.out.2.1 HL.out) 0).trans rfl
    have hc1 : w11.cell? ⟨w.heap.size, 1, none⟩ = some (.int .i64 a0_1) := (blk_cell (blk_below HK.out.2.1 HL.out) 1).trans rfl
    have hc2 : w11.cell? ⟨w.heap.size + 1, 0, none⟩ = some (.int .i64 a1_0) := (blk_cell (blk_below HK.out.2.2.1 HL.out) 0).trans rfl
    have hc3 : w11.cell? ⟨w.heap.size + 1, 1, none⟩ = some (.int .i64 a1_1) := (blk_cell (blk_below HK.out.2.2.1 HL.out) 1).trans rfl
    have hBB := HB.out
    have hZZ := HZ.out
    clear HL HB HK hG HZ hz0 hz1 hf0 hf1
    go_region_held3 (fun w' => w'.cell? ⟨w.heap.size, 0, none⟩ = some (.int .i64 a0_0) ∧ w'.cell? ⟨w.heap.size, 1, none⟩ = some (.int .i64 a0_1) ∧ w'.cell? ⟨w.heap.size + 1, 0, none⟩ = some (.int .i64 a1_0) ∧ w'.cell? ⟨w.heap.size + 1, 1, none⟩ = some (.int .i64 a1_1) ∧ w'.heap[w.heap.size + 1 + 1]? = some (.cells #[.int .i64 0, .int .i64 0] 23 (0, 0)) ∧ Below w.heap.size w w')
      (first
        | ((try go_split_ands); refine ⟨?_, ?_, ?_, ?_, ?_, ?_⟩ <;> (first | (with_reducible assumption) | (with_reducible refine pw_cell_below hbel ?_; with_reducible assumption) | (with_reducible refine below_step ?_ hbel; with_reducible assumption) | (with_reducible exact below_drew1 hBB) | (with_reducible refine blk_below ?_ hbel; with_reducible assumption) | assumption | go_keep))
        | fail)
      ((first | (go_at_call 50; (with_reducible refine (gauss_Cross.of_calls _ _ _).mono ?_); rintro e w' ⟨rfl, hbel⟩) | (go_at_call 49; (with_reducible refine (gauss_Cross.conj_calls _ _ _).mono ?_); rintro e w' ⟨rfl, hbel⟩)))
    go_split_ands
    rename_i hZ2 hB2
    have hz0 := (blk_cell hZ2 0).trans rfl
    have hz1 := (blk_cell hZ2 1).trans rfl
    have hf0 := blk_frozen hZ2 0
    have hf1 := blk_frozen hZ2 1
    have HZ2 := Aside0.mk hZ2
    have HB2 := Aside0.mk hB2
    clear hZ2 hB2 hZZ hBB
    go_wp2
    refine bodyPost_ret (results_ct rfl _ _ (w.heap.size + 1 + 1) 23 #[.int .i64 (a0_0 * a1_0 - a0_1 * a1_1), .int .i64 (a0_0 * a1_1 + a0_1 * a1_0)] (0, 0) _ rfl (by refine blk_put (cs := #[.int .i64 (a0_0 * a1_0 - a0_1 * a1_1), .int .i64 0]) ?_ 1 _ rfl; refine blk_put (cs := #[.int .i64 0, .int .i64 0]) ?_ 0 _ rfl; exact HZ2.out) Try.underlying23 rfl (by kernel_rfl)) rfl ?_
    exact ⟨rfl, below_set (below_set HB2.out (by omega)) (by omega)⟩

end Go.Proofs.Ytgibokbkobcnaaa.G
