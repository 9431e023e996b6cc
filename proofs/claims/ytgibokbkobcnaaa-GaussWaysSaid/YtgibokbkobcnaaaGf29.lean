/- What Go functions answer, as Lean functions, and that they do: written by wip/xprint.py of this session (the kit's printer with turns, texts by hand among them). -/
import Derived.Test.YtgibokbkobcnaaaG0
import Derived.Test.YtgibokbkobcnaaaGd0
import Derived.Test.YtgibokbkobcnaaaGf19
import Derived.Test.YtgibokbkobcnaaaGf16
namespace Go.Proofs.Ytgibokbkobcnaaa.G
open Go.RowKit Go.Proofs.YtgibokbkobcnaaaW.PrintWords Go.Proofs.YtgibokbkobcnaaaW.PrintLast Go.Proofs.YtgibokbkobcnaaaW.PrintMore
attribute [local go_sem] max2_int min2_int max_two min_two max_three min_three max_four min_four   -- for this text's walks alone
set_option linter.unusedVariables false
set_option linter.unusedSimpArgs false

/-! ### gauss_Quarter: function 29 -/
-- CALLS
theorem gauss_Quarter.q_bd {x y : Int} (h : -4194304 ≤ x ∧ x ≤ 4194304 ∧ -4194304 ≤ y ∧ y ≤ 4194304) : ∀ j, -4194304 ≤ (gauss_Quarter.q x y j).1 ∧ (gauss_Quarter.q x y j).1 ≤ 4194304 ∧ -4194304 ≤ (gauss_Quarter.q x y j).2 ∧ (gauss_Quarter.q x y j).2 ≤ 4194304
  | 0 => h
  | j + 1 => by
    have := gauss_Quarter.q_bd h j
    simp only [gauss_Quarter.q]
    omega
theorem gauss_Quarter.one : Fl.Is 4607182418800017408 1 := ⟨false, 1, by decide +kernel, by decide, by decide⟩
theorem gauss_Quarter.zero : Fl.Is 0 0 := ⟨false, 0, by unfold Fl.fw; rw [Fl.nearest_zero]; rfl, by decide, by decide⟩
theorem gauss_Quarter.step {re im : Nat} {p : Int × Int} (h1 : Fl.Is re p.1) (h2 : Fl.Is im p.2) (hb : -4194304 ≤ p.1 ∧ p.1 ≤ 4194304 ∧ -4194304 ≤ p.2 ∧ p.2 ≤ 4194304) :
    ∃ re' im', cMulBits re im 0 4607182418800017408 = some (re', im') ∧ Fl.Is re' (-p.2) ∧ Fl.Is im' p.1 := by
  obtain ⟨r, i, e, i1, i2⟩ := Fl.cmul h1 h2 gauss_Quarter.zero gauss_Quarter.one (by omega) (by omega) (by omega) (by omega)
  refine ⟨r, i, e, ?_, ?_⟩
  · rw [show -p.2 = p.1 * 0 - p.2 * 1 by omega]; exact i1
  · rw [show p.1 = p.1 * 1 + p.2 * 0 by omega]; exact i2
theorem gauss_Quarter.and3 (n : Int) : bits .and .i64 n 3 = n % 4 := by
  have h3 : (BitVec.ofInt 64 3).toNat = 2 ^ 2 - 1 := by decide
  have h : (BitVec.ofInt 64 n &&& BitVec.ofInt 64 3).toNat = (n % ((2 ^ 64 : Nat) : Int)).toNat % 2 ^ 2 := by
    rw [BitVec.toNat_and, BitVec.toNat_ofInt, h3, Nat.and_two_pow_sub_one_eq_mod]
  show IntKind.i64.wrap ((BitVec.ofInt 64 n &&& BitVec.ofInt 64 3).toNat : Nat) = n % 4
  rw [h, IntKind.wrap_i64]
  omega
set_option maxHeartbeats 4000000 in
set_option maxRecDepth 100000 in
theorem gauss_Quarter.calls (a0_0 a0_1 a1 : Int) (r1 r2 r3 : Int) (w : World) (h : gauss_Quarter.f a0_0 a0_1 a1 = some (r1, r2, r3)) :
    Calls Try.prog 29 #[.agg #[.int .i64 a0_0, .int .i64 a0_1], .int .i64 a1] w fun e w' => e = .returned (.tuple #[.agg #[.int .i64 r1, .int .i64 r2], .int .i64 r3]) ∧ Below w.heap.size w w' := by
  have huP := Try.underlying23
  have huC := Try.underlying78
  have huF := Try.underlying77
  have huI := Try.underlying3
  have hG0 := gauss_Cross.good1 0 a0_0 a0_1
  unfold gauss_Quarter.f at h
  have HBW : Below w.heap.size w ((w.alloc (.cells #[.int .i64 a0_0, .int .i64 a0_1] 23 (0, 0))).alloc (.cells #[.int .i64 0, .int .i64 0] 23 (0, 0))) := below_alloc (below_alloc (Below.refl _ _) _) _
  have hk0 : ((w.alloc (.cells #[.int .i64 a0_0, .int .i64 a0_1] 23 (0, 0))).alloc (.cells #[.int .i64 0, .int .i64 0] 23 (0, 0))).heap[w.heap.size]? = some (.cells #[.int .i64 a0_0, .int .i64 a0_1] 23 (0, 0)) := blk_alloc (Aid.blk_top _ _ _ (by simp)) _
  have hk1 : ((w.alloc (.cells #[.int .i64 a0_0, .int .i64 a0_1] 23 (0, 0))).alloc (.cells #[.int .i64 0, .int .i64 0] 23 (0, 0))).heap[w.heap.size + 1]? = some (.cells #[.int .i64 0, .int .i64 0] 23 (0, 0)) := Aid.blk_top _ _ _ (by simp)
  have HK := Aside0.mk (And.intro HBW (And.intro hk0 (And.intro hk1 True.intro)))
  clear HBW hk0 hk1
  cases hg : (gauss_Cross.gd a0_0 a0_1)
  · rw [hg] at hG0 h
    rw [if_neg (by simp)] at h
    simp only [Option.some.injEq, Prod.mk.injEq] at h
    obtain ⟨rfl, rfl, rfl⟩ := h
    have hG := Aside0.mk hG0
    clear hG0 hg
    go_enter Try.func29, Try.ntmps29
    go_wp2_with (first | ((with_reducible refine gate_dst (N := 8) rfl ?_); refine Kd.R_lit k23 _ 23 ?hg (N := 8) ?hd (xs := ([(⟨a0_0, a0_1⟩ : S23)] : List (S23))) (inner := [.int .i64 a0_0, .int .i64 a0_1]) (ok := fun _ => True) (okp := fun _ => True) ?hr ?hp (fun _ hk => hk) trivial (Below.refl _ _) (Nat.le_refl _) (by simp) ?_; (case hd => rfl); (case hg => rfl); (case hr => first | (go_simp; done) | (go_simp; rfl)); (case hp => exact (Reps.c2 (show Kd.M k23 _ _ _ (⟨a0_0, a0_1⟩ : S23) [.int .i64 a0_0, .int .i64 a0_1] from (k23_mkM _ _ _ (⟨a0_0, a0_1⟩ : S23) )) (Reps.none _ _))); intro v105 w8 ho9 hb hg_ hnew_; clear hg_ hnew_; have HO := Aside0.mk ho9; have HB8 := Aside0.mk (below_step HK.out.1 hb); have HL8 := Aside0.mk hb; clear hb ho9; obtain ⟨Ao10, co10, eo10⟩ := Kd.R_slice HO.out; subst eo10) | ((with_reducible refine gate_callee (f := 19) rfl ?_); refine goesL_ (some 9) rfl rfl Try.func19 (by kernel_rfl) rfl #[.slice Ao10 ([(⟨a0_0, a0_1⟩ : S23)] : List (S23)).length co10] rfl (by (try simp only [List.map_toArray, List.map_cons, List.map_nil]); first | done | rfl) ?_; (with_reducible refine (gauss_Good.calls _ _ _ ([(⟨a0_0, a0_1⟩ : S23)] : List (S23)) _ _ ?side1 ?side2 hG.out).mono ?_); (case side1 => exact (Kd.R_reads' HO.out).2.2); (case side2 => exact (Kd.R_reads' HO.out).2.1); rintro e w11 ⟨rfl, hb⟩; refine ⟨_, rfl, ?_⟩; have HB := Aside0.mk (below_step HB8.out hb); have HL := Aside0.mk (below_step HL8.out hb); (try clear hb); clear HB8 HL8 HO; have hZ := blk_below HK.out.2.2.1 HL.out; have HZ := Aside0.mk hZ; have hz0 : w11.cell? ⟨w.heap.size + 1, 0, none⟩ = some (.int .i64 0) := (blk_cell hZ 0).trans rfl; have hz1 : w11.cell? ⟨w.heap.size + 1, 1, none⟩ = some (.int .i64 0) := (blk_cell hZ 1).trans rfl; have hf0 := blk_frozen hZ 0; have hf1 := blk_frozen hZ 1; clear hZ; have hc0 : w11.cell? ⟨w.heap.size, 0, none⟩ = some (.int .i64 a0_0) := (blk_cell (blk_below HK.out.2.1 HL.out) 0).trans rfl; have hc1 : w11.cell? ⟨w.heap.size, 1, none⟩ = some (.int .i64 a0_1) := (blk_cell (blk_below HK.out.2.1 HL.out) 1).trans rfl))
    refine bodyPost_ret (results_ct rfl _ _ (w.heap.size + 1) 23 #[.int .i64 (0), .int .i64 (0)] (0, 0) _ rfl (by refine blk_put (cs := #[.int .i64 (0), .int .i64 0]) ?_ 1 _ rfl; refine blk_put (cs := #[.int .i64 0, .int .i64 0]) ?_ 0 _ rfl; exact HZ.out) Try.underlying23 rfl (by kernel_rfl)) rfl ?_
    exact ⟨rfl, below_set (below_set HB.out (by omega)) (by omega)⟩
  · rw [hg] at hG0 h
    rw [if_pos rfl] at h
    simp only [Option.some.injEq, Prod.mk.injEq] at h
    obtain ⟨rfl, rfl, rfl⟩ := h
    have hG := Aside0.mk hG0
    have hg1 := gauss_Cross.gd_iff.1 hg
    have HQ := Aside0.mk (gauss_Quarter.q_bd hg1)
    have HI := Aside0.mk (And.intro (gauss_Cross.isof ⟨hg1.1, hg1.2.1⟩) (gauss_Cross.isof ⟨hg1.2.2.1, hg1.2.2.2⟩))
    clear hG0 hg hg1
    obtain ⟨m, hm3, hmm⟩ : ∃ m : Nat, m ≤ 3 ∧ a1 % 4 = (m : Int) := ⟨(a1 % 4).toNat, by omega, by omega⟩
    have hand : bits .and .i64 a1 3 = (m : Int) := (gauss_Quarter.and3 a1).trans hmm
    rw [hmm, Int.toNat_natCast]
    clear hmm
    go_enter Try.func29, Try.ntmps29
    go_wp2_with (first | ((with_reducible refine gate_dst (N := 8) rfl ?_); refine Kd.R_lit k23 _ 23 ?hg (N := 8) ?hd (xs := ([(⟨a0_0, a0_1⟩ : S23)] : List (S23))) (inner := [.int .i64 a0_0, .int .i64 a0_1]) (ok := fun _ => True) (okp := fun _ => True) ?hr ?hp (fun _ hk => hk) trivial (Below.refl _ _) (Nat.le_refl _) (by simp) ?_; (case hd => rfl); (case hg => rfl); (case hr => first | (go_simp; done) | (go_simp; rfl)); (case hp => exact (Reps.c2 (show Kd.M k23 _ _ _ (⟨a0_0, a0_1⟩ : S23) [.int .i64 a0_0, .int .i64 a0_1] from (k23_mkM _ _ _ (⟨a0_0, a0_1⟩ : S23) )) (Reps.none _ _))); intro v105 w8 ho9 hb hg_ hnew_; clear hg_ hnew_; have HO := Aside0.mk ho9; have HB8 := Aside0.mk (below_step HK.out.1 hb); have HL8 := Aside0.mk hb; clear hb ho9; obtain ⟨Ao10, co10, eo10⟩ := Kd.R_slice HO.out; subst eo10) | ((with_reducible refine gate_callee (f := 19) rfl ?_); refine goesL_ (some 9) rfl rfl Try.func19 (by kernel_rfl) rfl #[.slice Ao10 ([(⟨a0_0, a0_1⟩ : S23)] : List (S23)).length co10] rfl (by (try simp only [List.map_toArray, List.map_cons, List.map_nil]); first | done | rfl) ?_; (with_reducible refine (gauss_Good.calls _ _ _ ([(⟨a0_0, a0_1⟩ : S23)] : List (S23)) _ _ ?side1 ?side2 hG.out).mono ?_); (case side1 => exact (Kd.R_reads' HO.out).2.2); (case side2 => exact (Kd.R_reads' HO.out).2.1); rintro e w11 ⟨rfl, hb⟩; refine ⟨_, rfl, ?_⟩; have HB := Aside0.mk (below_step HB8.out hb); have HL := Aside0.mk (below_step HL8.out hb); (try clear hb); clear HB8 HL8 HO; have hZ := blk_below HK.out.2.2.1 HL.out; have HZ := Aside0.mk hZ; have hz0 : w11.cell? ⟨w.heap.size + 1, 0, none⟩ = some (.int .i64 0) := (blk_cell hZ 0).trans rfl; have hz1 : w11.cell? ⟨w.heap.size + 1, 1, none⟩ = some (.int .i64 0) := (blk_cell hZ 1).trans rfl; have hf0 := blk_frozen hZ 0; have hf1 := blk_frozen hZ 1; clear hZ; have hc0 : w11.cell? ⟨w.heap.size, 0, none⟩ = some (.int .i64 a0_0) := (blk_cell (blk_below HK.out.2.1 HL.out) 0).trans rfl; have hc1 : w11.cell? ⟨w.heap.size, 1, none⟩ = some (.int .i64 a0_1) := (blk_cell (blk_below HK.out.2.1 HL.out) 1).trans rfl) | (go_at_call 50; (with_reducible refine (gauss_Cross.of_calls _ _ _).mono ?_); rintro e w12 ⟨rfl, hbel⟩; have HZ2 := Aside0.mk (blk_below HZ.out hbel); have HB2 := Aside0.mk (below_step HB.out hbel); clear hbel HZ HB hz0 hz1 hf0 hf1 hc0 hc1 HL HK hG))
    go_loop [6, 16] (fun z i => ∃ (j re im : Nat), j ≤ m ∧ i = .int .i64 (j : Int) ∧ z = .complex .f64 re im ∧ Fl.Is re (gauss_Quarter.q a0_0 a0_1 j).1 ∧ Fl.Is im (gauss_Quarter.q a0_0 a0_1 j).2) (fun _ i => m - (intOf i).toNat)
    case atStart => exact ⟨0, _, _, Nat.zero_le _, rfl, rfl, HI.out.1, HI.out.2⟩
    case round =>
      obtain ⟨j, re, im, hj, rfl, rfl, h1, h2⟩ := hrel
      have hqb := HQ.out j
      by_cases hlt : j < m
      · obtain ⟨re', im', e, i1, i2⟩ := gauss_Quarter.step h1 h2 hqb
        have hm : ∀ W : World, (binOp .mul 78 (.complex .f64 re im) (.complex .f64 0 4607182418800017408)).run Try.prog W = .ok (.complex .f64 re' im') W := fun W => run_complex_mul W _ _ _ _ _ _ _ e
        have HI1 := Aside0.mk i1
        have HI2 := Aside0.mk i2
        clear i1 i2 e h1 h2 hqb
        go_wp2
        go_round
        case rel => exact ⟨j + 1, re', im', by omega, by go_num, rfl, HI1.out, HI2.out⟩
        case measure => simp [intOf]; omega
      · obtain rfl : m = j := by omega
        have hcr := Fl.toInt h1
        have hci := Fl.toInt h2
        have hv0 : ∀ W : World, (convert 77 3 (.float .f64 re)).run Try.prog W = .ok (.int .i64 (gauss_Quarter.q a0_0 a0_1 m).1) W := fun W => run_convert_float_int W _ _ _ _ _ _ (by rw [huF]; rfl) huI hcr
        have hv1 : ∀ W : World, (convert 77 3 (.float .f64 im)).run Try.prog W = .ok (.int .i64 (gauss_Quarter.q a0_0 a0_1 m).2) W := fun W => run_convert_float_int W _ _ _ _ _ _ (by rw [huF]; rfl) huI hci
        have hz0 : w12.cell? ⟨w.heap.size + 1, 0, none⟩ = some (.int .i64 0) := (blk_cell HZ2.out 0).trans rfl
        have hz1 : w12.cell? ⟨w.heap.size + 1, 1, none⟩ = some (.int .i64 0) := (blk_cell HZ2.out 1).trans rfl
        have hf0 := blk_frozen HZ2.out 0
        have hf1 := blk_frozen HZ2.out 1
        clear hcr hci h1 h2 hqb hand
        go_wp2
        refine bodyPost_ret (results_ct rfl _ _ (w.heap.size + 1) 23 #[.int .i64 ((gauss_Quarter.q a0_0 a0_1 m).1), .int .i64 ((gauss_Quarter.q a0_0 a0_1 m).2)] (0, 0) _ rfl (by refine blk_put (cs := #[.int .i64 ((gauss_Quarter.q a0_0 a0_1 m).1), .int .i64 0]) ?_ 1 _ rfl; refine blk_put (cs := #[.int .i64 0, .int .i64 0]) ?_ 0 _ rfl; exact HZ2.out) Try.underlying23 rfl (by kernel_rfl)) rfl ?_
        exact ⟨rfl, below_set (below_set HB2.out (by omega)) (by omega)⟩

end Go.Proofs.Ytgibokbkobcnaaa.G
