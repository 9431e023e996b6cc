/- What Go functions answer, as Lean functions, and that they do: written by wip/xprint.py of this session (the kit's printer with turns, texts by hand among them). -/
import Derived.Test.YtiicdgimffpckaaW0
import Derived.Test.YtiicdgimffpckaaWe0
import Derived.Test.YtiicdgimffpckaaWd0
namespace Go.Proofs.Ytiicdgimffpckaa.W
open Go.RowKit Go.Proofs.YtiicdgimffpckaaW.PrintWords Go.Proofs.YtiicdgimffpckaaW.PrintLast Go.Proofs.YtiicdgimffpckaaW.PrintMore
attribute [local go_sem] max2_int min2_int max_two min_two max_three min_three max_four min_four   -- for this text's walks alone
set_option linter.unusedVariables false
set_option linter.unusedSimpArgs false

attribute [local go_sem high] eqA28
/-! ### wide_Cmp: function 29 -/
set_option maxHeartbeats 8000000 in
set_option maxRecDepth 100000 in
theorem wide_Cmp.calls (k : Nat) (a0_0 : Int) (a0_1 : Int) (a1_0 : Int) (a1_1 : Int) (r : Int) (w : World) (h : wide_Cmp.f k a0_0 a0_1 a1_0 a1_1 = some r) :
    Calls Try.prog 29 #[.agg #[.int .i64 a0_0, .int .u64 a0_1], .agg #[.int .i64 a1_0, .int .u64 a1_1]] w fun e w' => e = .returned (.int .i64 r) ∧ Below w.heap.size w w' := by
  have hu28 := Try.underlying28
  have HB := Aside0.mk (Below.refl w.heap.size w)
  have H : (if a0_0 > a1_0 then (wide_Cmp.j0 k true a0_0 a0_1 a1_0 a1_1) else (if a0_0 = a1_0 then (wide_Cmp.j0 k (decide (a0_1 > a1_1)) a0_0 a0_1 a1_0 a1_1) else (wide_Cmp.j0 k false a0_0 a0_1 a1_0 a1_1))) = some r := h
  clear h
  have HC3 := Aside0.mk H
  clear H
  go_enter Try.func29, Try.ntmps29
  go_upto_region 1 with (first | ((with_reducible refine gate_dst (N := 2) rfl ?_); refine box_event ?hg (N := 2) ?hd (cs := #[.int .i64 a0_0, .int .u64 a0_1]) (t := 28) ?hr ?_; (case hd => rfl); (case hg => rfl); (case hr => first | (go_simp; done) | (go_simp; rfl)); intro gb166 hg w4 hbox hb; have n0_ := Aside0.mk (below_step (by repeat (first | (with_reducible first | exact HB.out | apply below_alloc | apply pw_below_drewN | apply below_drew1) | exact HB.out)) hb); have n1_ := Aside0.mk (hbox); have n2_ := Aside0.mk ((by rw [hg]; exact (below_size (by repeat (first | (with_reducible first | exact HB.out | apply below_alloc | apply pw_below_drewN | apply below_drew1) | exact HB.out))) : w.heap.size ≤ gb166)); have n3_ := Aside0.mk ((by rw [hg]; exact (below_size (by repeat (first | (with_reducible first | exact HB.out | apply below_alloc | apply pw_below_drewN | apply below_drew1) | exact HB.out))) : w.heap.size ≤ gb166)); clear HB; have HB := n0_; have BK166 := n1_; have GW166 := n2_; have GE166 := n3_; clear n0_ n1_ n2_ n3_; clear hb hbox hg) | ((with_reducible refine gate_dst (N := 3) rfl ?_); refine box_event ?hg (N := 3) ?hd (cs := #[.int .i64 a1_0, .int .u64 a1_1]) (t := 28) ?hr ?_; (case hd => rfl); (case hg => rfl); (case hr => first | (go_simp; done) | (go_simp; rfl)); intro gb167 hg w5 hbox hb; have n0_ := Aside0.mk (blk_below (g := gb166) (o := .cells #[.int .i64 a0_0, .int .u64 a0_1] 28 (0, 0)) (by (with_reducible repeat (first | refine blk_drewN ?_ _ | refine blk_drew ?_ | refine blk_alloc ?_ _)); exact BK166.out) hb); have n1_ := Aside0.mk (below_step (by repeat (first | (with_reducible first | exact HB.out | apply below_alloc | apply pw_below_drewN | apply below_drew1 | refine below_set ?_ GE166.out) | exact HB.out)) hb); have n2_ := Aside0.mk (hbox); have n3_ := Aside0.mk ((by rw [hg]; exact (below_size (by repeat (first | (with_reducible first | exact HB.out | apply below_alloc | apply pw_below_drewN | apply below_drew1 | refine below_set ?_ GE166.out) | exact HB.out))) : w.heap.size ≤ gb167)); have n4_ := Aside0.mk ((by rw [hg]; exact (below_size (by repeat (first | (with_reducible first | exact HB.out | apply below_alloc | apply pw_below_drewN | apply below_drew1 | refine below_set ?_ GE166.out) | exact HB.out))) : w.heap.size ≤ gb167)); have n5_ := Aside0.mk ((by rw [hg]; exact Nat.ne_of_lt (blk_lt (g := gb166) (o := .cells #[.int .i64 a0_0, .int .u64 a0_1] 28 (0, 0)) (by (with_reducible repeat (first | refine blk_drewN ?_ _ | refine blk_drew ?_ | refine blk_alloc ?_ _)); exact BK166.out)) : gb166 ≠ gb167)); have n6_ := Aside0.mk ((by rw [hg]; exact Nat.ne_of_gt (blk_lt (g := gb166) (o := .cells #[.int .i64 a0_0, .int .u64 a0_1] 28 (0, 0)) (by (with_reducible repeat (first | refine blk_drewN ?_ _ | refine blk_drew ?_ | refine blk_alloc ?_ _)); exact BK166.out)) : gb167 ≠ gb166)); clear BK166; clear HB; have BK166 := n0_; have HB := n1_; have BK167 := n2_; have GW167 := n3_; have GE167 := n4_; have NB166_167 := n5_; have NB167_166 := n6_; clear n0_ n1_ n2_ n3_ n4_ n5_ n6_; clear hb hbox hg))
  (try simp only [Act.put, List.setIfInBounds_toArray, List.set_cons_zero, List.set_cons_succ])
  go_cut [5] (fun v5 wc => ∃ (kq : Nat) (x5_2 : Bool), v5 = .bool x5_2 ∧ Aside0 (wide_Cmp.j0 kq x5_2 a0_0 a0_1 a1_0 a1_1 = some r) ∧ Aside0 (kq ≤ k) ∧ Aside0 (wc.heap[gb166]? = some (.cells #[.int .i64 a0_0, .int .u64 a0_1] 28 (0, 0))) ∧ Aside0 (wc.heap[gb167]? = some (.cells #[.int .i64 a1_0, .int .u64 a1_1] 28 (0, 0))) ∧ Aside0 (Below w.heap.size w wc))
  case first =>
    have H := HC3.out
    clear HC3
    by_cases c6 : a0_0 > a1_0
    · rw [if_pos c6] at H
      have c6b0 : decide (a1_0 < a0_0) = true := decide_eq_true c6
      clear c6
      (first | rw [c6b0] | (simp only [i64_w, i32_w]; rw [c6b0]) | skip)
      have H' := Aside0.mk H
      clear H
      have hnb7 := NB166_167.out
      have hnc7 := NB167_166.out
      have hcz8_0 : w5.cell? ⟨gb166, 0, none⟩ = some (.int .i64 a0_0) := (blk_cell BK166.out 0).trans rfl
      have hcz8_1 : w5.cell? ⟨gb166, 1, none⟩ = some (.int .u64 a0_1) := (blk_cell BK166.out 1).trans rfl
      have hfz8_0 := blk_frozen BK166.out 0
      have hfz8_1 := blk_frozen BK166.out 1
      have hcz9_0 : w5.cell? ⟨gb167, 0, none⟩ = some (.int .i64 a1_0) := (blk_cell BK167.out 0).trans rfl
      have hcz9_1 : w5.cell? ⟨gb167, 1, none⟩ = some (.int .u64 a1_1) := (blk_cell BK167.out 1).trans rfl
      have hfz9_0 := blk_frozen BK167.out 0
      have hfz9_1 := blk_frozen BK167.out 1
      go_wp2
      go_meet
      case rel => exact ⟨_, (true), (by first | rfl | (simp; done) | (simp [*]; done)), H', ⟨by first | omega | exact Nat.le_refl _⟩, ⟨by (with_reducible repeat (first | refine blk_drewN ?_ _ | refine blk_drew ?_ | refine blk_alloc ?_ _)); exact BK166.out⟩, ⟨by (with_reducible repeat (first | refine blk_drewN ?_ _ | refine blk_drew ?_ | refine blk_alloc ?_ _)); exact BK167.out⟩, ⟨by repeat (first | (with_reducible first | exact HB.out | apply below_alloc | apply pw_below_drewN | apply below_drew1 | refine below_set ?_ GE166.out | refine below_set ?_ GE167.out) | exact HB.out)⟩⟩
    · rw [if_neg c6] at H
      have c6b0 : decide (a1_0 < a0_0) = false := decide_eq_false c6
      clear c6
      (first | rw [c6b0] | (simp only [i64_w, i32_w]; rw [c6b0]) | skip)
      by_cases c10 : a0_0 = a1_0
      · rw [if_pos c10] at H
        have c10b0 : (a0_0 == a1_0) = true := beq_iff_eq.mpr c10
        have c10b1 : (a0_0 != a1_0) = false := bne_eq_false_iff_eq.mpr c10
        clear c10
        have H' := Aside0.mk H
        clear H
        have hnb11 := NB166_167.out
        have hnc11 := NB167_166.out
        have hcz12_0 : w5.cell? ⟨gb166, 0, none⟩ = some (.int .i64 a0_0) := (blk_cell BK166.out 0).trans rfl
        have hcz12_1 : w5.cell? ⟨gb166, 1, none⟩ = some (.int .u64 a0_1) := (blk_cell BK166.out 1).trans rfl
        have hfz12_0 := blk_frozen BK166.out 0
        have hfz12_1 := blk_frozen BK166.out 1
        have hcz13_0 : w5.cell? ⟨gb167, 0, none⟩ = some (.int .i64 a1_0) := (blk_cell BK167.out 0).trans rfl
        have hcz13_1 : w5.cell? ⟨gb167, 1, none⟩ = some (.int .u64 a1_1) := (blk_cell BK167.out 1).trans rfl
        have hfz13_0 := blk_frozen BK167.out 0
        have hfz13_1 := blk_frozen BK167.out 1
        go_wp2
        go_meet
        case rel => exact ⟨_, (decide (a0_1 > a1_1)), (by first | rfl | (simp; done) | (simp [*]; done)), H', ⟨by first | omega | exact Nat.le_refl _⟩, ⟨by (with_reducible repeat (first | refine blk_drewN ?_ _ | refine blk_drew ?_ | refine blk_alloc ?_ _)); exact BK166.out⟩, ⟨by (with_reducible repeat (first | refine blk_drewN ?_ _ | refine blk_drew ?_ | refine blk_alloc ?_ _)); exact BK167.out⟩, ⟨by repeat (first | (with_reducible first | exact HB.out | apply below_alloc | apply pw_below_drewN | apply below_drew1 | refine below_set ?_ GE166.out | refine below_set ?_ GE167.out) | exact HB.out)⟩⟩
      · rw [if_neg c10] at H
        have c10b0 : (a0_0 == a1_0) = false := beq_eq_false_iff_ne.mpr c10
        have c10b1 : (a0_0 != a1_0) = true := bne_iff_ne.mpr c10
        have H' := Aside0.mk H
        clear H
        have hnb14 := NB166_167.out
        have hnc14 := NB167_166.out
        have hcz15_0 : w5.cell? ⟨gb166, 0, none⟩ = some (.int .i64 a0_0) := (blk_cell BK166.out 0).trans rfl
        have hcz15_1 : w5.cell? ⟨gb166, 1, none⟩ = some (.int .u64 a0_1) := (blk_cell BK166.out 1).trans rfl
        have hfz15_0 := blk_frozen BK166.out 0
        have hfz15_1 := blk_frozen BK166.out 1
        have hcz16_0 : w5.cell? ⟨gb167, 0, none⟩ = some (.int .i64 a1_0) := (blk_cell BK167.out 0).trans rfl
        have hcz16_1 : w5.cell? ⟨gb167, 1, none⟩ = some (.int .u64 a1_1) := (blk_cell BK167.out 1).trans rfl
        have hfz16_0 := blk_frozen BK167.out 0
        have hfz16_1 := blk_frozen BK167.out 1
        go_wp2
        go_meet
        case rel => exact ⟨_, (false), (by first | rfl | (simp; done) | (simp [*]; done)), H', ⟨by first | omega | exact Nat.le_refl _⟩, ⟨by (with_reducible repeat (first | refine blk_drewN ?_ _ | refine blk_drew ?_ | refine blk_alloc ?_ _)); exact BK166.out⟩, ⟨by (with_reducible repeat (first | refine blk_drewN ?_ _ | refine blk_drew ?_ | refine blk_alloc ?_ _)); exact BK167.out⟩, ⟨by repeat (first | (with_reducible first | exact HB.out | apply below_alloc | apply pw_below_drewN | apply below_drew1 | refine below_set ?_ GE166.out | refine below_set ?_ GE167.out) | exact HB.out)⟩⟩
  case rest =>
    clear HC3
    try clear c1
    try clear c2
    try clear p2
    try clear c6
    try clear c6b0
    try clear c7
    try clear c10
    try clear c10b0
    try clear c10b1
    try clear c11
    try clear c14
    try clear hcz12_0
    try clear hcz12_1
    try clear hcz13_0
    try clear hcz13_1
    try clear hcz15_0
    try clear hcz15_1
    try clear hcz16_0
    try clear hcz16_1
    try clear hcz8_0
    try clear hcz8_1
    try clear hcz9_0
    try clear hcz9_1
    try clear hfz12_0
    try clear hfz12_1
    try clear hfz13_0
    try clear hfz13_1
    try clear hfz15_0
    try clear hfz15_1
    try clear hfz16_0
    try clear hfz16_1
    try clear hfz8_0
    try clear hfz8_1
    try clear hfz9_0
    try clear hfz9_1
    obtain ⟨kq, x5_2, rfl, HA, HJ2, BK166, BK167, HB⟩ := hcut
    cases kq with
    | zero => exact absurd HA.out (by simp [wide_Cmp.j0])
    | succ kj2 =>
      have H := HA.out
      clear HA
      simp only [wide_Cmp.j0] at H
      by_cases c17 : x5_2 = true
      · subst c17
        have H1 : (some 1) = some r := by rw [if_pos rfl] at H; exact H
        clear H
        have H := H1
        clear H1
        obtain rfl := Option.some.inj H
        go_wp2
        go_ret
        exact ⟨by first | rfl | (simp [errW_none, errW_some] <;> rfl) | (simp [*, errW_none, errW_some] <;> rfl), by repeat (first | (with_reducible first | exact HB.out | apply below_alloc | apply pw_below_drewN | apply below_drew1 | refine below_set ?_ GE166.out | refine below_set ?_ GE167.out) | exact HB.out)⟩
      · replace c17 := Bool.eq_false_iff.mpr c17
        subst c17
        have H1 : (if (a0_0 == a1_0 && (a0_1 == a1_1)) = true then (some 0) else (some (-1))) = some r := by rw [if_neg (show ¬ (false = true) by decide)] at H; exact H
        clear H
        have H := H1
        clear H1
        by_cases c18 : (a0_0 == a1_0 && (a0_1 == a1_1)) = true
        · rw [if_pos c18] at H
          have c18b0 : (a0_0 == a1_0 && (a0_1 == a1_1)) = true := c18
          (try (have c18b1 : decide (a0_0 = a1_0 && (a0_1 == a1_1)) = true := by simpa using c18))
          (try (have c18b2 : (a0_0 == a1_0 && (a0_1 == a1_1)) = true := by simpa using c18))
          clear c18
          obtain rfl := Option.some.inj H
          have hnb19 := NB166_167.out
          have hnc19 := NB167_166.out
          have hcz20_0 : wc.cell? ⟨gb166, 0, none⟩ = some (.int .i64 a0_0) := (blk_cell BK166.out 0).trans rfl
          have hcz20_1 : wc.cell? ⟨gb166, 1, none⟩ = some (.int .u64 a0_1) := (blk_cell BK166.out 1).trans rfl
          have hfz20_0 := blk_frozen BK166.out 0
          have hfz20_1 := blk_frozen BK166.out 1
          have hcz21_0 : wc.cell? ⟨gb167, 0, none⟩ = some (.int .i64 a1_0) := (blk_cell BK167.out 0).trans rfl
          have hcz21_1 : wc.cell? ⟨gb167, 1, none⟩ = some (.int .u64 a1_1) := (blk_cell BK167.out 1).trans rfl
          have hfz21_0 := blk_frozen BK167.out 0
          have hfz21_1 := blk_frozen BK167.out 1
          go_wp2
          go_ret
          exact ⟨by first | rfl | (simp [errW_none, errW_some] <;> rfl) | (simp [*, errW_none, errW_some] <;> rfl), by repeat (first | (with_reducible first | exact HB.out | apply below_alloc | apply pw_below_drewN | apply below_drew1 | refine below_set ?_ GE166.out | refine below_set ?_ GE167.out) | exact HB.out)⟩
        · rw [if_neg c18] at H
          have c18b0 : (a0_0 == a1_0 && (a0_1 == a1_1)) = false := by simpa using c18
          (try (have c18b1 : decide (a0_0 = a1_0 && (a0_1 == a1_1)) = false := by simpa using c18))
          (try (have c18b2 : (a0_0 == a1_0 && (a0_1 == a1_1)) = false := by simpa using c18))
          (try (have c18b3 : ¬ (a0_0 = a1_0 && (a0_1 == a1_1)) := by simpa using c18))
          clear c18
          obtain rfl := Option.some.inj H
          have hnb22 := NB166_167.out
          have hnc22 := NB167_166.out
          have hcz23_0 : wc.cell? ⟨gb166, 0, none⟩ = some (.int .i64 a0_0) := (blk_cell BK166.out 0).trans rfl
          have hcz23_1 : wc.cell? ⟨gb166, 1, none⟩ = some (.int .u64 a0_1) := (blk_cell BK166.out 1).trans rfl
          have hfz23_0 := blk_frozen BK166.out 0
          have hfz23_1 := blk_frozen BK166.out 1
          have hcz24_0 : wc.cell? ⟨gb167, 0, none⟩ = some (.int .i64 a1_0) := (blk_cell BK167.out 0).trans rfl
          have hcz24_1 : wc.cell? ⟨gb167, 1, none⟩ = some (.int .u64 a1_1) := (blk_cell BK167.out 1).trans rfl
          have hfz24_0 := blk_frozen BK167.out 0
          have hfz24_1 := blk_frozen BK167.out 1
          go_wp2
          go_ret
          exact ⟨by first | rfl | (simp [errW_none, errW_some] <;> rfl) | (simp [*, errW_none, errW_some] <;> rfl), by repeat (first | (with_reducible first | exact HB.out | apply below_alloc | apply pw_below_drewN | apply below_drew1 | refine below_set ?_ GE166.out | refine below_set ?_ GE167.out) | exact HB.out)⟩

end Go.Proofs.Ytiicdgimffpckaa.W
