/- What Go functions answer, as Lean functions, and that they do: written by wip/xprint.py of this session (the kit's printer with turns, texts by hand among them). -/
import Derived.Test.YtgibokbkobcnaaaG0
import Derived.Test.YtgibokbkobcnaaaGd0
import Derived.Test.YtgibokbkobcnaaaGf19
import Derived.Test.YtgibokbkobcnaaaGf16
namespace Go.Proofs.Ytgibokbkobcnaaa.G
open Go.RowKit Go.Proofs.YtgibokbkobcnaaaW.PrintWords Go.Proofs.YtgibokbkobcnaaaW.PrintLast Go.Proofs.YtgibokbkobcnaaaW.PrintMore
attribute [local go_sem] max2_int min2_int max_two min_two max_three min_three max_four min_four   -- for this text's walks alone
set_option linter.unusedVariables false
set_option linter.unusedSimpArgs false

/-! ### gauss_Turn: function 28 -/
-- CALLS
theorem gauss_Turn.zero : Fl.Is 0 0 := ⟨false, 0, by unfold Fl.fw; rw [Fl.nearest_zero]; rfl, by decide, by decide⟩
theorem gauss_Turn.abs_mul {x y : Int} (hx : -8388608 ≤ x ∧ x ≤ 8388608) (hy : -8388608 ≤ y ∧ y ≤ 8388608) : (x * y).natAbs < 2 ^ 52 := by
  rw [Int.natAbs_mul]
  have h1 : x.natAbs ≤ 8388608 := by omega
  have h2 : y.natAbs ≤ 8388608 := by omega
  have := Nat.mul_le_mul h1 h2
  omega
theorem gauss_Turn.prod_ok {a b c d e f : Int} (h1 : -4194304 ≤ a ∧ a ≤ 4194304 ∧ -4194304 ≤ b ∧ b ≤ 4194304) (h2 : -4194304 ≤ c ∧ c ≤ 4194304 ∧ -4194304 ≤ d ∧ d ≤ 4194304) (h3 : -4194304 ≤ e ∧ e ≤ 4194304 ∧ -4194304 ≤ f ∧ f ≤ 4194304) :
    ∃ p q u v re im, cSumBits .sub .f64 (Fl.of c) (Fl.of d) (Fl.of a) (Fl.of b) = some (p, q) ∧ cSumBits .sub .f64 (Fl.of e) (Fl.of f) (Fl.of a) (Fl.of b) = some (u, v) ∧ cMulBits p (Op.negFloat .f64 q) u v = some (re, im) ∧ Fl.Is im ((c - a) * (f - b) - (d - b) * (e - a)) := by
  have ha := gauss_Cross.isof ⟨h1.1, h1.2.1⟩
  have hb := gauss_Cross.isof ⟨h1.2.2.1, h1.2.2.2⟩
  have hc := gauss_Cross.isof ⟨h2.1, h2.2.1⟩
  have hd := gauss_Cross.isof ⟨h2.2.2.1, h2.2.2.2⟩
  have he := gauss_Cross.isof ⟨h3.1, h3.2.1⟩
  have hf := gauss_Cross.isof ⟨h3.2.2.1, h3.2.2.2⟩
  obtain ⟨p, q, e1, i1, i2⟩ := Fl.csub hc hd ha hb (by omega) (by omega)
  obtain ⟨u, v, e2, i3, i4⟩ := Fl.csub he hf ha hb (by omega) (by omega)
  obtain ⟨re, im, e3, _, i5⟩ := Fl.cmul i1 (Fl.neg i2) i3 i4 (gauss_Turn.abs_mul (by omega) (by omega)) (gauss_Turn.abs_mul (by omega) (by omega)) (gauss_Turn.abs_mul (by omega) (by omega)) (gauss_Turn.abs_mul (by omega) (by omega))
  refine ⟨p, q, u, v, re, im, e1, e2, e3, ?_⟩
  rw [Int.neg_mul, ← Int.sub_eq_add_neg] at i5
  exact i5
set_option maxHeartbeats 4000000 in
set_option maxRecDepth 100000 in
theorem gauss_Turn.calls (a0_0 a0_1 a1_0 a1_1 a2_0 a2_1 : Int) (r1 r2 : Int) (w : World) (h : gauss_Turn.f a0_0 a0_1 a1_0 a1_1 a2_0 a2_1 = some (r1, r2)) :
    Calls Try.prog 28 #[.agg #[.int .i64 a0_0, .int .i64 a0_1], .agg #[.int .i64 a1_0, .int .i64 a1_1], .agg #[.int .i64 a2_0, .int .i64 a2_1]] w fun e w' => e = .returned (.tuple #[.int .i64 r1, .int .i64 r2]) ∧ Below w.heap.size w w' := by
  have huP := Try.underlying23
  have huC := Try.underlying78
  have huF := Try.underlying77
  have huI := Try.underlying3
  have hG0 := gauss_Cross.good3 0 a0_0 a0_1 a1_0 a1_1 a2_0 a2_1
  unfold gauss_Turn.f at h
  have HBW : Below w.heap.size w (((w.alloc (.cells #[.int .i64 a0_0, .int .i64 a0_1] 23 (0, 0))).alloc (.cells #[.int .i64 a1_0, .int .i64 a1_1] 23 (0, 0))).alloc (.cells #[.int .i64 a2_0, .int .i64 a2_1] 23 (0, 0))) := below_alloc (below_alloc (below_alloc (Below.refl _ _) _) _) _
  have hk0 : (((w.alloc (.cells #[.int .i64 a0_0, .int .i64 a0_1] 23 (0, 0))).alloc (.cells #[.int .i64 a1_0, .int .i64 a1_1] 23 (0, 0))).alloc (.cells #[.int .i64 a2_0, .int .i64 a2_1] 23 (0, 0))).heap[w.heap.size]? = some (.cells #[.int .i64 a0_0, .int .i64 a0_1] 23 (0, 0)) := blk_alloc (blk_alloc (Aid.blk_top _ _ _ (by simp)) _) _
  have hk1 : (((w.alloc (.cells #[.int .i64 a0_0, .int .i64 a0_1] 23 (0, 0))).alloc (.cells #[.int .i64 a1_0, .int .i64 a1_1] 23 (0, 0))).alloc (.cells #[.int .i64 a2_0, .int .i64 a2_1] 23 (0, 0))).heap[w.heap.size + 1]? = some (.cells #[.int .i64 a1_0, .int .i64 a1_1] 23 (0, 0)) := blk_alloc (Aid.blk_top _ _ _ (by simp)) _
  have hk2 : (((w.alloc (.cells #[.int .i64 a0_0, .int .i64 a0_1] 23 (0, 0))).alloc (.cells #[.int .i64 a1_0, .int .i64 a1_1] 23 (0, 0))).alloc (.cells #[.int .i64 a2_0, .int .i64 a2_1] 23 (0, 0))).heap[w.heap.size + 1 + 1]? = some (.cells #[.int .i64 a2_0, .int .i64 a2_1] 23 (0, 0)) := Aid.blk_top _ _ _ (by simp)
  have HK := Aside0.mk (And.intro HBW (And.intro hk0 (And.intro hk1 hk2)))
  clear HBW hk0 hk1 hk2
  cases hg : (gauss_Cross.gd a0_0 a0_1 && gauss_Cross.gd a1_0 a1_1 && gauss_Cross.gd a2_0 a2_1)
  · rw [hg] at hG0 h
    rw [if_neg (by simp)] at h
    obtain ⟨rfl, rfl⟩ := Prod.mk.inj (Option.some.inj h)
    have hG := Aside0.mk hG0
    clear hG0 h hg
    go_enter Try.func28, Try.ntmps28
    go_wp2_with (first | ((with_reducible refine gate_dst (N := 12) rfl ?_); refine Kd.R_lit k23 _ 23 ?hg (N := 12) ?hd (xs := ([(⟨a0_0, a0_1⟩ : S23), (⟨a1_0, a1_1⟩ : S23), (⟨a2_0, a2_1⟩ : S23)] : List (S23))) (inner := [.int .i64 a0_0, .int .i64 a0_1, .int .i64 a1_0, .int .i64 a1_1, .int .i64 a2_0, .int .i64 a2_1]) (ok := fun _ => True) (okp := fun _ => True) ?hr ?hp (fun _ hk => hk) trivial (Below.refl _ _) (Nat.le_refl _) (by simp) ?_; (case hd => rfl); (case hg => rfl); (case hr => first | (go_simp; done) | (go_simp; rfl)); (case hp => exact (Reps.c2 (show Kd.M k23 _ _ _ (⟨a0_0, a0_1⟩ : S23) [.int .i64 a0_0, .int .i64 a0_1] from (k23_mkM _ _ _ (⟨a0_0, a0_1⟩ : S23) )) (Reps.c2 (show Kd.M k23 _ _ _ (⟨a1_0, a1_1⟩ : S23) [.int .i64 a1_0, .int .i64 a1_1] from (k23_mkM _ _ _ (⟨a1_0, a1_1⟩ : S23) )) (Reps.c2 (show Kd.M k23 _ _ _ (⟨a2_0, a2_1⟩ : S23) [.int .i64 a2_0, .int .i64 a2_1] from (k23_mkM _ _ _ (⟨a2_0, a2_1⟩ : S23) )) (Reps.none _ _))))); intro v105 w8 ho9 hb hg_ hnew_; clear hg_ hnew_; have HO := Aside0.mk ho9; have HB8 := Aside0.mk (below_step HK.out.1 hb); have HL8 := Aside0.mk hb; clear hb ho9; obtain ⟨Ao10, co10, eo10⟩ := Kd.R_slice HO.out; subst eo10) | ((with_reducible refine gate_callee (f := 19) rfl ?_); refine goesL_ (some 13) rfl rfl Try.func19 (by kernel_rfl) rfl #[.slice Ao10 ([(⟨a0_0, a0_1⟩ : S23), (⟨a1_0, a1_1⟩ : S23), (⟨a2_0, a2_1⟩ : S23)] : List (S23)).length co10] rfl (by (try simp only [List.map_toArray, List.map_cons, List.map_nil]); first | done | rfl) ?_; (with_reducible refine (gauss_Good.calls _ _ _ ([(⟨a0_0, a0_1⟩ : S23), (⟨a1_0, a1_1⟩ : S23), (⟨a2_0, a2_1⟩ : S23)] : List (S23)) _ _ ?side1 ?side2 hG.out).mono ?_); (case side1 => exact (Kd.R_reads' HO.out).2.2); (case side2 => exact (Kd.R_reads' HO.out).2.1); rintro e w11 ⟨rfl, hb⟩; refine ⟨_, rfl, ?_⟩; have HB := Aside0.mk (below_step HB8.out hb); have HL := Aside0.mk (below_step HL8.out hb); (try clear hb); clear HB8 HL8 HO))
    go_ret2
    exact ⟨rfl, HB.out⟩
  · rw [hg] at hG0 h
    rw [if_pos rfl] at h
    have hG := Aside0.mk hG0
    have hg3 := Bool.and_eq_true_iff.1 hg
    have hgg := Bool.and_eq_true_iff.1 hg3.1
    obtain ⟨p, q, u, v, re, im, e1, e2, e3, him⟩ := gauss_Turn.prod_ok (gauss_Cross.gd_iff.1 hgg.1) (gauss_Cross.gd_iff.1 hgg.2) (gauss_Cross.gd_iff.1 hg3.2)
    clear hG0 hg hgg hg3
    have hs1 : ∀ W : World, (binOp .sub 78 (.complex .f64 (Fl.of a1_0) (Fl.of a1_1)) (.complex .f64 (Fl.of a0_0) (Fl.of a0_1))).run Try.prog W = .ok (.complex .f64 p q) W := fun W => run_complex_sum W .sub (.inr rfl) _ _ _ _ _ _ _ _ e1
    have hs2 : ∀ W : World, (binOp .sub 78 (.complex .f64 (Fl.of a2_0) (Fl.of a2_1)) (.complex .f64 (Fl.of a0_0) (Fl.of a0_1))).run Try.prog W = .ok (.complex .f64 u v) W := fun W => run_complex_sum W .sub (.inr rfl) _ _ _ _ _ _ _ _ e2
    have hm : ∀ W : World, (binOp .mul 78 (.complex .f64 p (Op.negFloat .f64 q)) (.complex .f64 u v)).run Try.prog W = .ok (.complex .f64 re im) W := fun W => run_complex_mul W _ _ _ _ _ _ _ e3
    have hord := Fl.order him gauss_Turn.zero
    clear e1 e2 e3 him
    generalize (a1_0 - a0_0) * (a2_1 - a0_1) - (a1_1 - a0_1) * (a2_0 - a0_0) = D at h hord
    rcases Int.lt_trichotomy D 0 with hD | hD | hD
    · rw [if_neg (by omega), if_pos hD] at h
      obtain ⟨rfl, rfl⟩ := Prod.mk.inj (Option.some.inj h)
      rw [Int.compare_eq_lt.2 hD] at hord
      clear h hD
      go_enter Try.func28, Try.ntmps28
      go_wp2_with (first | ((with_reducible refine gate_dst (N := 12) rfl ?_); refine Kd.R_lit k23 _ 23 ?hg (N := 12) ?hd (xs := ([(⟨a0_0, a0_1⟩ : S23), (⟨a1_0, a1_1⟩ : S23), (⟨a2_0, a2_1⟩ : S23)] : List (S23))) (inner := [.int .i64 a0_0, .int .i64 a0_1, .int .i64 a1_0, .int .i64 a1_1, .int .i64 a2_0, .int .i64 a2_1]) (ok := fun _ => True) (okp := fun _ => True) ?hr ?hp (fun _ hk => hk) trivial (Below.refl _ _) (Nat.le_refl _) (by simp) ?_; (case hd => rfl); (case hg => rfl); (case hr => first | (go_simp; done) | (go_simp; rfl)); (case hp => exact (Reps.c2 (show Kd.M k23 _ _ _ (⟨a0_0, a0_1⟩ : S23) [.int .i64 a0_0, .int .i64 a0_1] from (k23_mkM _ _ _ (⟨a0_0, a0_1⟩ : S23) )) (Reps.c2 (show Kd.M k23 _ _ _ (⟨a1_0, a1_1⟩ : S23) [.int .i64 a1_0, .int .i64 a1_1] from (k23_mkM _ _ _ (⟨a1_0, a1_1⟩ : S23) )) (Reps.c2 (show Kd.M k23 _ _ _ (⟨a2_0, a2_1⟩ : S23) [.int .i64 a2_0, .int .i64 a2_1] from (k23_mkM _ _ _ (⟨a2_0, a2_1⟩ : S23) )) (Reps.none _ _))))); intro v105 w8 ho9 hb hg_ hnew_; clear hg_ hnew_; have HO := Aside0.mk ho9; have HB8 := Aside0.mk (below_step HK.out.1 hb); have HL8 := Aside0.mk hb; clear hb ho9; obtain ⟨Ao10, co10, eo10⟩ := Kd.R_slice HO.out; subst eo10) | ((with_reducible refine gate_callee (f := 19) rfl ?_); refine goesL_ (some 13) rfl rfl Try.func19 (by kernel_rfl) rfl #[.slice Ao10 ([(⟨a0_0, a0_1⟩ : S23), (⟨a1_0, a1_1⟩ : S23), (⟨a2_0, a2_1⟩ : S23)] : List (S23)).length co10] rfl (by (try simp only [List.map_toArray, List.map_cons, List.map_nil]); first | done | rfl) ?_; (with_reducible refine (gauss_Good.calls _ _ _ ([(⟨a0_0, a0_1⟩ : S23), (⟨a1_0, a1_1⟩ : S23), (⟨a2_0, a2_1⟩ : S23)] : List (S23)) _ _ ?side1 ?side2 hG.out).mono ?_); (case side1 => exact (Kd.R_reads' HO.out).2.2); (case side2 => exact (Kd.R_reads' HO.out).2.1); rintro e w11 ⟨rfl, hb⟩; refine ⟨_, rfl, ?_⟩; have HB := Aside0.mk (below_step HB8.out hb); have HL := Aside0.mk (below_step HL8.out hb); (try clear hb); clear HB8 HL8 HO))
      have hc0 : w11.cell? ⟨w.heap.size, 0, none⟩ = some (.int .i64 a0_0) := (blk_cell (blk_below HK.out.2.1 HL.out) 0).trans rfl
      have hc1 : w11.cell? ⟨w.heap.size, 1, none⟩ = some (.int .i64 a0_1) := (blk_cell (blk_below HK.out.2.1 HL.out) 1).trans rfl
      have hc2 : w11.cell? ⟨w.heap.size + 1, 0, none⟩ = some (.int .i64 a1_0) := (blk_cell (blk_below HK.out.2.2.1 HL.out) 0).trans rfl
      have hc3 : w11.cell? ⟨w.heap.size + 1, 1, none⟩ = some (.int .i64 a1_1) := (blk_cell (blk_below HK.out.2.2.1 HL.out) 1).trans rfl
      have hc4 : w11.cell? ⟨w.heap.size + 1 + 1, 0, none⟩ = some (.int .i64 a2_0) := (blk_cell (blk_below HK.out.2.2.2 HL.out) 0).trans rfl
      have hc5 : w11.cell? ⟨w.heap.size + 1 + 1, 1, none⟩ = some (.int .i64 a2_1) := (blk_cell (blk_below HK.out.2.2.2 HL.out) 1).trans rfl
      have hBB := HB.out
      clear HL HB HK hG
      go_region_held3 (fun w' => w'.cell? ⟨w.heap.size, 0, none⟩ = some (.int .i64 a0_0) ∧ w'.cell? ⟨w.heap.size, 1, none⟩ = some (.int .i64 a0_1) ∧ w'.cell? ⟨w.heap.size + 1, 0, none⟩ = some (.int .i64 a1_0) ∧ w'.cell? ⟨w.heap.size + 1, 1, none⟩ = some (.int .i64 a1_1) ∧ w'.cell? ⟨w.heap.size + 1 + 1, 0, none⟩ = some (.int .i64 a2_0) ∧ w'.cell? ⟨w.heap.size + 1 + 1, 1, none⟩ = some (.int .i64 a2_1) ∧ Below w.heap.size w w')
        (first
          | ((try go_split_ands); refine ⟨?_, ?_, ?_, ?_, ?_, ?_, ?_⟩ <;> (first | (with_reducible assumption) | (with_reducible refine pw_cell_below hbel ?_; with_reducible assumption) | (with_reducible refine below_step ?_ hbel; with_reducible assumption) | (with_reducible exact below_drew1 hBB) | (with_reducible refine blk_below ?_ hbel; with_reducible assumption) | assumption | go_keep))
          | fail)
        ((first | (go_at_call 50; (with_reducible refine (gauss_Cross.of_calls _ _ _).mono ?_); rintro e w' ⟨rfl, hbel⟩) | (go_at_call 49; (with_reducible refine (gauss_Cross.conj_calls _ _ _).mono ?_); rintro e w' ⟨rfl, hbel⟩)))
      go_split_ands
      go_wp2
      go_ret2
      exact ⟨rfl, by assumption⟩
    · rw [if_neg (by omega), if_neg (by omega)] at h
      obtain ⟨rfl, rfl⟩ := Prod.mk.inj (Option.some.inj h)
      rw [Int.compare_eq_eq.2 hD] at hord
      clear h hD
      go_enter Try.func28, Try.ntmps28
      go_wp2_with (first | ((with_reducible refine gate_dst (N := 12) rfl ?_); refine Kd.R_lit k23 _ 23 ?hg (N := 12) ?hd (xs := ([(⟨a0_0, a0_1⟩ : S23), (⟨a1_0, a1_1⟩ : S23), (⟨a2_0, a2_1⟩ : S23)] : List (S23))) (inner := [.int .i64 a0_0, .int .i64 a0_1, .int .i64 a1_0, .int .i64 a1_1, .int .i64 a2_0, .int .i64 a2_1]) (ok := fun _ => True) (okp := fun _ => True) ?hr ?hp (fun _ hk => hk) trivial (Below.refl _ _) (Nat.le_refl _) (by simp) ?_; (case hd => rfl); (case hg => rfl); (case hr => first | (go_simp; done) | (go_simp; rfl)); (case hp => exact (Reps.c2 (show Kd.M k23 _ _ _ (⟨a0_0, a0_1⟩ : S23) [.int .i64 a0_0, .int .i64 a0_1] from (k23_mkM _ _ _ (⟨a0_0, a0_1⟩ : S23) )) (Reps.c2 (show Kd.M k23 _ _ _ (⟨a1_0, a1_1⟩ : S23) [.int .i64 a1_0, .int .i64 a1_1] from (k23_mkM _ _ _ (⟨a1_0, a1_1⟩ : S23) )) (Reps.c2 (show Kd.M k23 _ _ _ (⟨a2_0, a2_1⟩ : S23) [.int .i64 a2_0, .int .i64 a2_1] from (k23_mkM _ _ _ (⟨a2_0, a2_1⟩ : S23) )) (Reps.none _ _))))); intro v105 w8 ho9 hb hg_ hnew_; clear hg_ hnew_; have HO := Aside0.mk ho9; have HB8 := Aside0.mk (below_step HK.out.1 hb); have HL8 := Aside0.mk hb; clear hb ho9; obtain ⟨Ao10, co10, eo10⟩ := Kd.R_slice HO.out; subst eo10) | ((with_reducible refine gate_callee (f := 19) rfl ?_); refine goesL_ (some 13) rfl rfl Try.func19 (by kernel_rfl) rfl #[.slice Ao10 ([(⟨a0_0, a0_1⟩ : S23), (⟨a1_0, a1_1⟩ : S23), (⟨a2_0, a2_1⟩ : S23)] : List (S23)).length co10] rfl (by (try simp only [List.map_toArray, List.map_cons, List.map_nil]); first | done | rfl) ?_; (with_reducible refine (gauss_Good.calls _ _ _ ([(⟨a0_0, a0_1⟩ : S23), (⟨a1_0, a1_1⟩ : S23), (⟨a2_0, a2_1⟩ : S23)] : List (S23)) _ _ ?side1 ?side2 hG.out).mono ?_); (case side1 => exact (Kd.R_reads' HO.out).2.2); (case side2 => exact (Kd.R_reads' HO.out).2.1); rintro e w11 ⟨rfl, hb⟩; refine ⟨_, rfl, ?_⟩; have HB := Aside0.mk (below_step HB8.out hb); have HL := Aside0.mk (below_step HL8.out hb); (try clear hb); clear HB8 HL8 HO))
      have hc0 : w11.cell? ⟨w.heap.size, 0, none⟩ = some (.int .i64 a0_0) := (blk_cell (blk_below HK.out.2.1 HL.out) 0).trans rfl
      have hc1 : w11.cell? ⟨w.heap.size, 1, none⟩ = some (.int .i64 a0_1) := (blk_cell (blk_below HK.out.2.1 HL.out) 1).trans rfl
      have hc2 : w11.cell? ⟨w.heap.size + 1, 0, none⟩ = some (.int .i64 a1_0) := (blk_cell (blk_below HK.out.2.2.1 HL.out) 0).trans rfl
      have hc3 : w11.cell? ⟨w.heap.size + 1, 1, none⟩ = some (.int .i64 a1_1) := (blk_cell (blk_below HK.out.2.2.1 HL.out) 1).trans rfl
      have hc4 : w11.cell? ⟨w.heap.size + 1 + 1, 0, none⟩ = some (.int .i64 a2_0) := (blk_cell (blk_below HK.out.2.2.2 HL.out) 0).trans rfl
      have hc5 : w11.cell? ⟨w.heap.size + 1 + 1, 1, none⟩ = some (.int .i64 a2_1) := (blk_cell (blk_below HK.out.2.2.2 HL.out) 1).trans rfl
      have hBB := HB.out
      clear HL HB HK hG
      go_region_held3 (fun w' => w'.cell? ⟨w.heap.size, 0, none⟩ = some (.int .i64 a0_0) ∧ w'.cell? ⟨w.heap.size, 1, none⟩ = some (.int .i64 a0_1) ∧ w'.cell? ⟨w.heap.size + 1, 0, none⟩ = some (.int .i64 a1_0) ∧ w'.cell? ⟨w.heap.size + 1, 1, none⟩ = some (.int .i64 a1_1) ∧ w'.cell? ⟨w.heap.size + 1 + 1, 0, none⟩ = some (.int .i64 a2_0) ∧ w'.cell? ⟨w.heap.size + 1 + 1, 1, none⟩ = some (.int .i64 a2_1) ∧ Below w.heap.size w w')
        (first
          | ((try go_split_ands); refine ⟨?_, ?_, ?_, ?_, ?_, ?_, ?_⟩ <;> (first | (with_reducible assumption) | (with_reducible refine pw_cell_below hbel ?_; with_reducible assumption) | (with_reducible refine below_step ?_ hbel; with_reducible assumption) | (with_reducible exact below_drew1 hBB) | (with_reducible refine blk_below ?_ hbel; with_reducible assumption) | assumption | go_keep))
          | fail)
        ((first | (go_at_call 50; (with_reducible refine (gauss_Cross.of_calls _ _ _).mono ?_); rintro e w' ⟨rfl, hbel⟩) | (go_at_call 49; (with_reducible refine (gauss_Cross.conj_calls _ _ _).mono ?_); rintro e w' ⟨rfl, hbel⟩)))
      go_split_ands
      go_wp2
      go_ret2
      exact ⟨rfl, by assumption⟩
    · rw [if_pos (by omega)] at h
      obtain ⟨rfl, rfl⟩ := Prod.mk.inj (Option.some.inj h)
      rw [Int.compare_eq_gt.2 hD] at hord
      clear h hD
      go_enter Try.func28, Try.ntmps28
      go_wp2_with (first | ((with_reducible refine gate_dst (N := 12) rfl ?_); refine Kd.R_lit k23 _ 23 ?hg (N := 12) ?hd (xs := ([(⟨a0_0, a0_1⟩ : S23), (⟨a1_0, a1_1⟩ : S23), (⟨a2_0, a2_1⟩ : S23)] : List (S23))) (inner := [.int .i64 a0_0, .int .i64 a0_1, .int .i64 a1_0, .int .i64 a1_1, .int .i64 a2_0, .int .i64 a2_1]) (ok := fun _ => True) (okp := fun _ => True) ?hr ?hp (fun _ hk => hk) trivial (Below.refl _ _) (Nat.le_refl _) (by simp) ?_; (case hd => rfl); (case hg => rfl); (case hr => first | (go_simp; done) | (go_simp; rfl)); (case hp => exact (Reps.c2 (show Kd.M k23 _ _ _ (⟨a0_0, a0_1⟩ : S23) [.int .i64 a0_0, .int .i64 a0_1] from (k23_mkM _ _ _ (⟨a0_0, a0_1⟩ : S23) )) (Reps.c2 (show Kd.M k23 _ _ _ (⟨a1_0, a1_1⟩ : S23) [.int .i64 a1_0, .int .i64 a1_1] from (k23_mkM _ _ _ (⟨a1_0, a1_1⟩ : S23) )) (Reps.c2 (show Kd.M k23 _ _ _ (⟨a2_0, a2_1⟩ : S23) [.int .i64 a2_0, .int .i64 a2_1] from (k23_mkM _ _ _ (⟨a2_0, a2_1⟩ : S23) )) (Reps.none _ _))))); intro v105 w8 ho9 hb hg_ hnew_; clear hg_ hnew_; have HO := Aside0.mk ho9; have HB8 := Aside0.mk (below_step HK.out.1 hb); have HL8 := Aside0.mk hb; clear hb ho9; obtain ⟨Ao10, co10, eo10⟩ := Kd.R_slice HO.out; subst eo10) | ((with_reducible refine gate_callee (f := 19) rfl ?_); refine goesL_ (some 13) rfl rfl Try.func19 (by kernel_rfl) rfl #[.slice Ao10 ([(⟨a0_0, a0_1⟩ : S23), (⟨a1_0, a1_1⟩ : S23), (⟨a2_0, a2_1⟩ : S23)] : List (S23)).length co10] rfl (by (try simp only [List.map_toArray, List.map_cons, List.map_nil]); first | done | rfl) ?_; (with_reducible refine (gauss_Good.calls _ _ _ ([(⟨a0_0, a0_1⟩ : S23), (⟨a1_0, a1_1⟩ : S23), (⟨a2_0, a2_1⟩ : S23)] : List (S23)) _ _ ?side1 ?side2 hG.out).mono ?_); (case side1 => exact (Kd.R_reads' HO.out).2.2); (case side2 => exact (Kd.R_reads' HO.out).2.1); rintro e w11 ⟨rfl, hb⟩; refine ⟨_, rfl, ?_⟩; have HB := Aside0.mk (below_step HB8.out hb); have HL := Aside0.mk (below_step HL8.out hb); (try clear hb); clear HB8 HL8 HO))
      have hc0 : w11.cell? ⟨w.heap.size, 0, none⟩ = some (.int .i64 a0_0) := (blk_cell (blk_below HK.out.2.1 HL.out) 0).trans rfl
      have hc1 : w11.cell? ⟨w.heap.size, 1, none⟩ = some (.int .i64 a0_1) := (blk_cell (blk_below HK.out.2.1 HL.out) 1).trans rfl
      have hc2 : w11.cell? ⟨w.heap.size + 1, 0, none⟩ = some (.int .i64 a1_0) := (blk_cell (blk_below HK.out.2.2.1 HL.out) 0).trans rfl
      have hc3 : w11.cell? ⟨w.heap.size + 1, 1, none⟩ = some (.int .i64 a1_1) := (blk_cell (blk_below HK.out.2.2.1 HL.out) 1).trans rfl
      have hc4 : w11.cell? ⟨w.heap.size + 1 + 1, 0, none⟩ = some (.int .i64 a2_0) := (blk_cell (blk_below HK.out.2.2.2 HL.out) 0).trans rfl
      have hc5 : w11.cell? ⟨w.heap.size + 1 + 1, 1, none⟩ = some (.int .i64 a2_1) := (blk_cell (blk_below HK.out.2.2.2 HL.out) 1).trans rfl
      have hBB := HB.out
      clear HL HB HK hG
      go_region_held3 (fun w' => w'.cell? ⟨w.heap.size, 0, none⟩ = some (.int .i64 a0_0) ∧ w'.cell? ⟨w.heap.size, 1, none⟩ = some (.int .i64 a0_1) ∧ w'.cell? ⟨w.heap.size + 1, 0, none⟩ = some (.int .i64 a1_0) ∧ w'.cell? ⟨w.heap.size + 1, 1, none⟩ = some (.int .i64 a1_1) ∧ w'.cell? ⟨w.heap.size + 1 + 1, 0, none⟩ = some (.int .i64 a2_0) ∧ w'.cell? ⟨w.heap.size + 1 + 1, 1, none⟩ = some (.int .i64 a2_1) ∧ Below w.heap.size w w')
        (first
          | ((try go_split_ands); refine ⟨?_, ?_, ?_, ?_, ?_, ?_, ?_⟩ <;> (first | (with_reducible assumption) | (with_reducible refine pw_cell_below hbel ?_; with_reducible assumption) | (with_reducible refine below_step ?_ hbel; with_reducible assumption) | (with_reducible exact below_drew1 hBB) | (with_reducible refine blk_below ?_ hbel; with_reducible assumption) | assumption | go_keep))
          | fail)
        ((first | (go_at_call 50; (with_reducible refine (gauss_Cross.of_calls _ _ _).mono ?_); rintro e w' ⟨rfl, hbel⟩) | (go_at_call 49; (with_reducible refine (gauss_Cross.conj_calls _ _ _).mono ?_); rintro e w' ⟨rfl, hbel⟩)))
      go_split_ands
      go_wp2
      go_ret2
      exact ⟨rfl, by assumption⟩

end Go.Proofs.Ytgibokbkobcnaaa.G
