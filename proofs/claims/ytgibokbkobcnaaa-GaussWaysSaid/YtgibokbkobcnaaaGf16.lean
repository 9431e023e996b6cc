/- What Go functions answer, as Lean functions, and that they do: written by wip/xprint.py of this session (the kit's printer with turns, texts by hand among them). -/
import Derived.Test.YtgibokbkobcnaaaG0
import Derived.Test.YtgibokbkobcnaaaGd0
import Derived.Test.YtgibokbkobcnaaaGf19
namespace Go.Proofs.Ytgibokbkobcnaaa.G
open Go.RowKit Go.Proofs.YtgibokbkobcnaaaW.PrintWords Go.Proofs.YtgibokbkobcnaaaW.PrintLast Go.Proofs.YtgibokbkobcnaaaW.PrintMore
attribute [local go_sem] max2_int min2_int max_two min_two max_three min_three max_four min_four   -- for this text's walks alone
set_option linter.unusedVariables false
set_option linter.unusedSimpArgs false

/-! ### gauss_Cross: function 16 -/
-- CALLS
set_option maxHeartbeats 1000000 in
theorem gauss_Cross.of_calls (x y : Int) (w : World) : Calls Try.prog 50 #[.agg #[.int .i64 x, .int .i64 y]] w fun e w' => e = .returned (.complex .f64 (Fl.of x) (Fl.of y)) ∧ Below w.heap.size w w' := by
  have hu := Try.underlying23
  have hf := Try.underlying77
  have hi := Try.underlying3
  go_enter Try.func50, Try.ntmps50
  go_wp2
  go_ret
  exact ⟨rfl, below_alloc (Below.refl _ _) _⟩
set_option maxHeartbeats 1000000 in
theorem gauss_Cross.conj_calls (x y : Nat) (w : World) : Calls Try.prog 49 #[.complex .f64 x y] w fun e w' => e = .returned (.complex .f64 x (Op.negFloat .f64 y)) ∧ Below w.heap.size w w' := by
  have hf := Try.underlying77
  have hn : ∀ (b : Nat) (W : World), (Op.unary .neg (.float .f64 b)).run Try.prog W = .ok (.float .f64 (Op.negFloat .f64 b)) W := fun _ _ => rfl
  go_enter Try.func49, Try.ntmps49
  go_wp2
  go_ret
  exact ⟨rfl, Below.refl _ _⟩
set_option maxHeartbeats 4000000 in
set_option maxRecDepth 100000 in
theorem gauss_Cross.calls (a0_0 a0_1 a1_0 a1_1 : Int) (r1 r2 : Int) (w : World) (h : gauss_Cross.f a0_0 a0_1 a1_0 a1_1 = some (r1, r2)) :
    Calls Try.prog 16 #[.agg #[.int .i64 a0_0, .int .i64 a0_1], .agg #[.int .i64 a1_0, .int .i64 a1_1]] w fun e w' => e = .returned (.tuple #[.int .i64 r1, .int .i64 r2]) ∧ Below w.heap.size w w' := by
  have huP := Try.underlying23
  have huC := Try.underlying78
  have huF := Try.underlying77
  have huI := Try.underlying3
  have hG0 := gauss_Cross.good2 0 a0_0 a0_1 a1_0 a1_1
  unfold gauss_Cross.f at h
  have HBW : Below w.heap.size w ((w.alloc (.cells #[.int .i64 a0_0, .int .i64 a0_1] 23 (0, 0))).alloc (.cells #[.int .i64 a1_0, .int .i64 a1_1] 23 (0, 0))) := below_alloc (below_alloc (Below.refl _ _) _) _
  have hk0 : ((w.alloc (.cells #[.int .i64 a0_0, .int .i64 a0_1] 23 (0, 0))).alloc (.cells #[.int .i64 a1_0, .int .i64 a1_1] 23 (0, 0))).heap[w.heap.size]? = some (.cells #[.int .i64 a0_0, .int .i64 a0_1] 23 (0, 0)) := blk_alloc (Aid.blk_top _ _ _ (by simp)) _
  have hk1 : ((w.alloc (.cells #[.int .i64 a0_0, .int .i64 a0_1] 23 (0, 0))).alloc (.cells #[.int .i64 a1_0, .int .i64 a1_1] 23 (0, 0))).heap[w.heap.size + 1]? = some (.cells #[.int .i64 a1_0, .int .i64 a1_1] 23 (0, 0)) := Aid.blk_top _ _ _ (by simp)
  have HK := Aside0.mk (And.intro HBW (And.intro hk0 hk1))
  clear HBW hk0 hk1
  cases hg : (gauss_Cross.gd a0_0 a0_1 && gauss_Cross.gd a1_0 a1_1)
  · rw [hg] at hG0 h
    rw [if_neg (by simp)] at h
    obtain ⟨rfl, rfl⟩ := Prod.mk.inj (Option.some.inj h)
    have hG := Aside0.mk hG0
    clear hG0 h hg
    go_enter Try.func16, Try.ntmps16
    go_wp2_with (first | ((with_reducible refine gate_dst (N := 8) rfl ?_); refine Kd.R_lit k23 _ 23 ?hg (N := 8) ?hd (xs := ([(⟨a0_0, a0_1⟩ : S23), (⟨a1_0, a1_1⟩ : S23)] : List (S23))) (inner := [.int .i64 a0_0, .int .i64 a0_1, .int .i64 a1_0, .int .i64 a1_1]) (ok := fun _ => True) (okp := fun _ => True) ?hr ?hp (fun _ hk => hk) trivial (Below.refl _ _) (Nat.le_refl _) (by simp) ?_; (case hd => rfl); (case hg => rfl); (case hr => first | (go_simp; done) | (go_simp; rfl)); (case hp => exact (Reps.c2 (show Kd.M k23 _ _ _ (⟨a0_0, a0_1⟩ : S23) [.int .i64 a0_0, .int .i64 a0_1] from (k23_mkM _ _ _ (⟨a0_0, a0_1⟩ : S23) )) (Reps.c2 (show Kd.M k23 _ _ _ (⟨a1_0, a1_1⟩ : S23) [.int .i64 a1_0, .int .i64 a1_1] from (k23_mkM _ _ _ (⟨a1_0, a1_1⟩ : S23) )) (Reps.none _ _)))); intro v105 w8 ho9 hb hg_ hnew_; clear hg_ hnew_; have HO := Aside0.mk ho9; have HB8 := Aside0.mk (below_step HK.out.1 hb); have HL8 := Aside0.mk hb; clear hb ho9; obtain ⟨Ao10, co10, eo10⟩ := Kd.R_slice HO.out; subst eo10) | ((with_reducible refine gate_callee (f := 19) rfl ?_); refine goesL_ (some 9) rfl rfl Try.func19 (by kernel_rfl) rfl #[.slice Ao10 ([(⟨a0_0, a0_1⟩ : S23), (⟨a1_0, a1_1⟩ : S23)] : List (S23)).length co10] rfl (by (try simp only [List.map_toArray, List.map_cons, List.map_nil]); first | done | rfl) ?_; (with_reducible refine (gauss_Good.calls _ _ _ ([(⟨a0_0, a0_1⟩ : S23), (⟨a1_0, a1_1⟩ : S23)] : List (S23)) _ _ ?side1 ?side2 hG.out).mono ?_); (case side1 => exact (Kd.R_reads' HO.out).2.2); (case side2 => exact (Kd.R_reads' HO.out).2.1); rintro e w11 ⟨rfl, hb⟩; refine ⟨_, rfl, ?_⟩; have HB := Aside0.mk (below_step HB8.out hb); have HL := Aside0.mk (below_step HL8.out hb); (try clear hb); clear HB8 HL8 HO))
    go_ret2
    exact ⟨rfl, HB.out⟩
  · rw [hg] at hG0 h
    rw [if_pos rfl] at h
    obtain ⟨rfl, rfl⟩ := Prod.mk.inj (Option.some.inj h)
    have hG := Aside0.mk hG0
    have hgg := Bool.and_eq_true_iff.1 hg
    have hg1 := gauss_Cross.gd_iff.1 hgg.1
    have hg2 := gauss_Cross.gd_iff.1 hgg.2
    clear hG0 h hg hgg
    obtain ⟨re, im, hmul, hre, him⟩ := gauss_Cross.prod_ok hg1 hg2
    have hcv := Fl.toInt him
    clear hre him
    have hm : ∀ W : World, (binOp .mul 78 (.complex .f64 (Fl.of a0_0) (Op.negFloat .f64 (Fl.of a0_1))) (.complex .f64 (Fl.of a1_0) (Fl.of a1_1))).run Try.prog W = .ok (.complex .f64 re im) W := fun W => run_complex_mul W _ _ _ _ _ _ _ hmul
    have hv : ∀ W : World, (convert 77 3 (.float .f64 im)).run Try.prog W = .ok (.int .i64 (a0_0 * a1_1 - a0_1 * a1_0)) W := fun W => run_convert_float_int W _ _ _ _ _ _ (by rw [huF]; rfl) huI hcv
    clear hmul hcv hg1 hg2
    go_enter Try.func16, Try.ntmps16
    go_wp2_with (first | ((with_reducible refine gate_dst (N := 8) rfl ?_); refine Kd.R_lit k23 _ 23 ?hg (N := 8) ?hd (xs := ([(⟨a0_0, a0_1⟩ : S23), (⟨a1_0, a1_1⟩ : S23)] : List (S23))) (inner := [.int .i64 a0_0, .int .i64 a0_1, .int .i64 a1_0, .int .i64 a1_1]) (ok := fun _ => True) (okp := fun _ => True) ?hr ?hp (fun _ hk => hk) trivial (Below.refl _ _) (Nat.le_refl _) (by simp) ?_; (case hd => rfl); (case hg => rfl); (case hr => first | (go_simp; done) | (go_simp; rfl)); (case hp => exact (Reps.c2 (show Kd.M k23 _ _ _ (⟨a0_0, a0_1⟩ : S23) [.int .i64 a0_0, .int .i64 a0_1] from (k23_mkM _ _ _ (⟨a0_0, a0_1⟩ : S23) )) (Reps.c2 (show Kd.M k23 _ _ _ (⟨a1_0, a1_1⟩ : S23) [.int .i64 a1_0, .int .i64 a1_1] from (k23_mkM _ _ _ (⟨a1_0, a1_1⟩ : S23) )) (Reps.none _ _)))); intro v105 w8 ho9 hb hg_ hnew_; clear hg_ hnew_; have HO := Aside0.mk ho9; have HB8 := Aside0.mk (below_step HK.out.1 hb); have HL8 := Aside0.mk hb; clear hb ho9; obtain ⟨Ao10, co10, eo10⟩ := Kd.R_slice HO.out; subst eo10) | ((with_reducible refine gate_callee (f := 19) rfl ?_); refine goesL_ (some 9) rfl rfl Try.func19 (by kernel_rfl) rfl #[.slice Ao10 ([(⟨a0_0, a0_1⟩ : S23), (⟨a1_0, a1_1⟩ : S23)] : List (S23)).length co10] rfl (by (try simp only [List.map_toArray, List.map_cons, List.map_nil]); first | done | rfl) ?_; (with_reducible refine (gauss_Good.calls _ _ _ ([(⟨a0_0, a0_1⟩ : S23), (⟨a1_0, a1_1⟩ : S23)] : List (S23)) _ _ ?side1 ?side2 hG.out).mono ?_); (case side1 => exact (Kd.R_reads' HO.out).2.2); (case side2 => exact (Kd.R_reads' HO.out).2.1); rintro e w11 ⟨rfl, hb⟩; refine ⟨_, rfl, ?_⟩; have HB := Aside0.mk (below_step HB8.out hb); have HL := Aside0.mk (below_step HL8.out hb); (try clear hb); clear HB8 HL8 HO))
    have hc0 : w11.cell? ⟨w.heap.size, 0, none⟩ = some (.int .i64 a0_0) := (blk_cell (blk_below HK.out.2.1 HL.out) 0).trans rfl
    have hc1 : w11.cell? ⟨w.heap.size, 1, none⟩ = some (.int .i64 a0_1) := (blk_cell (blk_below HK.out.2.1 HL.out) 1).trans rfl
    have hc2 : w11.cell? ⟨w.heap.size + 1, 0, none⟩ = some (.int .i64 a1_0) := (blk_cell (blk_below HK.out.2.2 HL.out) 0).trans rfl
    have hc3 : w11.cell? ⟨w.heap.size + 1, 1, none⟩ = some (.int .i64 a1_1) := (blk_cell (blk_below HK.out.2.2 HL.out) 1).trans rfl
    have hBB := HB.out
    clear HL HB HK hG
    go_region_held3 (fun w' => w'.cell? ⟨w.heap.size, 0, none⟩ = some (.int .i64 a0_0) ∧ w'.cell? ⟨w.heap.size, 1, none⟩ = some (.int .i64 a0_1) ∧ w'.cell? ⟨w.heap.size + 1, 0, none⟩ = some (.int .i64 a1_0) ∧ w'.cell? ⟨w.heap.size + 1, 1, none⟩ = some (.int .i64 a1_1) ∧ Below w.heap.size w w')
      (first
        | ((try go_split_ands); refine ⟨?_, ?_, ?_, ?_, ?_⟩ <;> (first | (with_reducible assumption) | (with_reducible refine pw_cell_below hbel ?_; with_reducible assumption) | (with_reducible refine below_step ?_ hbel; with_reducible assumption) | (with_reducible exact below_drew1 hBB) | assumption | go_keep))
        | fail)
      ((first | (go_at_call 50; (with_reducible refine (gauss_Cross.of_calls _ _ _).mono ?_); rintro e w' ⟨rfl, hbel⟩) | (go_at_call 49; (with_reducible refine (gauss_Cross.conj_calls _ _ _).mono ?_); rintro e w' ⟨rfl, hbel⟩)))
    go_split_ands
    go_wp2
    go_ret2
    exact ⟨rfl, by assumption⟩

end Go.Proofs.Ytgibokbkobcnaaa.G
