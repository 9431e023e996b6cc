/- What Go functions answer, as Lean functions, and that they do: written by wip/xprint.py of this session (the kit's printer with turns, texts by hand among them). -/
import Derived.Test.YtiicdgimffpckaaW0
import Derived.Test.YtiicdgimffpckaaWd0
import Derived.Test.YtiicdgimffpckaaWf19
import Derived.Test.YtiicdgimffpckaaWf16
import Derived.Test.YtiicdgimffpckaaWf21
import Derived.Test.YtiicdgimffpckaaWf15
import Derived.Test.YtiicdgimffpckaaWf17
import Derived.Test.YtiicdgimffpckaaWf18
import Derived.Test.YtiicdgimffpckaaWf20
import Derived.Test.YtiicdgimffpckaaWf22
namespace Go.Proofs.Ytiicdgimffpckaa.W
open Go.RowKit Go.Proofs.YtiicdgimffpckaaW.PrintWords Go.Proofs.YtiicdgimffpckaaW.PrintLast Go.Proofs.YtiicdgimffpckaaW.PrintMore
attribute [local go_sem] max2_int min2_int max_two min_two max_three min_three max_four min_four   -- for this text's walks alone
set_option linter.unusedVariables false
set_option linter.unusedSimpArgs false

/-! ### calamuslaw01_WideMuls: function 3 -/
set_option maxHeartbeats 8000000 in
set_option maxRecDepth 100000 in
theorem calamuslaw01_WideMuls.calls (k : Nat) (a0 : Int) (a1 : Int) (a2_0 : Int) (a2_1 : Int) (r : Bool) (w : World) (h : calamuslaw01_WideMuls.f k a0 a1 a2_0 a2_1 = some r) :
    Calls Try.prog 3 #[.int .i64 a0, .int .i64 a1, .agg #[.int .i64 a2_0, .int .u64 a2_1]] w fun e w' => e = .returned (.bool r) ∧ Below w.heap.size w w' := by
  have hu24 := Try.underlying24
  have HB := Aside0.mk (Below.refl w.heap.size w)
  have H : ((calamuslaw01_alive.f k).bind fun t333 => (if t333 = true then ((calamuslaw01_Two_own.f a2_0 a2_1).bind fun bt334 => ((wide_Small.f bt334.1 bt334.2).bind fun bt336 => (if a2_0 = 0 then (if a2_1 < 9223372036854775808 then (calamuslaw01_WideMuls.j0 k a0 a1 bt336.1 bt336.2 true a2_0 a2_1) else (if a2_0 = (-1) then (calamuslaw01_WideMuls.j0 k a0 a1 bt336.1 bt336.2 (decide (a2_1 ≥ 9223372036854775808)) a2_0 a2_1) else (calamuslaw01_WideMuls.j0 k a0 a1 bt336.1 bt336.2 false a2_0 a2_1))) else (if a2_0 = (-1) then (calamuslaw01_WideMuls.j0 k a0 a1 bt336.1 bt336.2 (decide (a2_1 ≥ 9223372036854775808)) a2_0 a2_1) else (calamuslaw01_WideMuls.j0 k a0 a1 bt336.1 bt336.2 false a2_0 a2_1))))) else (none))) = some r := h
  clear h
  replace H := Option.bind_eq_some_iff.mp H
  obtain ⟨t333, A40, H⟩ := H
  replace H : (if t333 = true then ((calamuslaw01_Two_own.f a2_0 a2_1).bind fun bt334 => ((wide_Small.f bt334.1 bt334.2).bind fun bt336 => (if a2_0 = 0 then (if a2_1 < 9223372036854775808 then (calamuslaw01_WideMuls.j0 k a0 a1 bt336.1 bt336.2 true a2_0 a2_1) else (if a2_0 = (-1) then (calamuslaw01_WideMuls.j0 k a0 a1 bt336.1 bt336.2 (decide (a2_1 ≥ 9223372036854775808)) a2_0 a2_1) else (calamuslaw01_WideMuls.j0 k a0 a1 bt336.1 bt336.2 false a2_0 a2_1))) else (if a2_0 = (-1) then (calamuslaw01_WideMuls.j0 k a0 a1 bt336.1 bt336.2 (decide (a2_1 ≥ 9223372036854775808)) a2_0 a2_1) else (calamuslaw01_WideMuls.j0 k a0 a1 bt336.1 bt336.2 false a2_0 a2_1))))) else (none)) = some r := H
  have A4 := Aside0.mk A40
  clear A40
  by_cases c5 : t333 = true
  · subst c5
    have H1 : ((calamuslaw01_Two_own.f a2_0 a2_1).bind fun bt334 => ((wide_Small.f bt334.1 bt334.2).bind fun bt336 => (if a2_0 = 0 then (if a2_1 < 9223372036854775808 then (calamuslaw01_WideMuls.j0 k a0 a1 bt336.1 bt336.2 true a2_0 a2_1) else (if a2_0 = (-1) then (calamuslaw01_WideMuls.j0 k a0 a1 bt336.1 bt336.2 (decide (a2_1 ≥ 9223372036854775808)) a2_0 a2_1) else (calamuslaw01_WideMuls.j0 k a0 a1 bt336.1 bt336.2 false a2_0 a2_1))) else (if a2_0 = (-1) then (calamuslaw01_WideMuls.j0 k a0 a1 bt336.1 bt336.2 (decide (a2_1 ≥ 9223372036854775808)) a2_0 a2_1) else (calamuslaw01_WideMuls.j0 k a0 a1 bt336.1 bt336.2 false a2_0 a2_1))))) = some r := by rw [if_pos rfl] at H; exact H
    clear H
    have H := H1
    clear H1
    replace H := Option.bind_eq_some_iff.mp H
    obtain ⟨⟨t334, t335⟩, A60, H⟩ := H
    replace H : ((wide_Small.f t334 t335).bind fun bt336 => (if a2_0 = 0 then (if a2_1 < 9223372036854775808 then (calamuslaw01_WideMuls.j0 k a0 a1 bt336.1 bt336.2 true a2_0 a2_1) else (if a2_0 = (-1) then (calamuslaw01_WideMuls.j0 k a0 a1 bt336.1 bt336.2 (decide (a2_1 ≥ 9223372036854775808)) a2_0 a2_1) else (calamuslaw01_WideMuls.j0 k a0 a1 bt336.1 bt336.2 false a2_0 a2_1))) else (if a2_0 = (-1) then (calamuslaw01_WideMuls.j0 k a0 a1 bt336.1 bt336.2 (decide (a2_1 ≥ 9223372036854775808)) a2_0 a2_1) else (calamuslaw01_WideMuls.j0 k a0 a1 bt336.1 bt336.2 false a2_0 a2_1)))) = some r := H
    have A6 := Aside0.mk A60
    clear A60
    replace H := Option.bind_eq_some_iff.mp H
    obtain ⟨⟨t336, t337⟩, A70, H⟩ := H
    replace H : (if a2_0 = 0 then (if a2_1 < 9223372036854775808 then (calamuslaw01_WideMuls.j0 k a0 a1 t336 t337 true a2_0 a2_1) else (if a2_0 = (-1) then (calamuslaw01_WideMuls.j0 k a0 a1 t336 t337 (decide (a2_1 ≥ 9223372036854775808)) a2_0 a2_1) else (calamuslaw01_WideMuls.j0 k a0 a1 t336 t337 false a2_0 a2_1))) else (if a2_0 = (-1) then (calamuslaw01_WideMuls.j0 k a0 a1 t336 t337 (decide (a2_1 ≥ 9223372036854775808)) a2_0 a2_1) else (calamuslaw01_WideMuls.j0 k a0 a1 t336 t337 false a2_0 a2_1))) = some r := H
    have A7 := Aside0.mk A70
    clear A70
    have HC8 := Aside0.mk H
    clear H
    go_enter Try.func3, Try.ntmps3
    go_upto_region 4 with (first | ((with_reducible refine gate_dst (N := 5) rfl ?_); refine box_event ?hg (N := 5) ?hd (cs := #[.int .i64 a2_0, .int .u64 a2_1]) (t := 24) ?hr ?_; (case hd => rfl); (case hg => rfl); (case hr => first | (go_simp; done) | (go_simp; rfl)); intro gb332 hg w9 hbox hb; have n0_ := Aside0.mk (below_step (by repeat (first | (with_reducible first | exact HB.out | apply below_alloc | apply pw_below_drewN | apply below_drew1) | exact HB.out)) hb); have n1_ := Aside0.mk (hbox); have n2_ := Aside0.mk ((by rw [hg]; exact (below_size (by repeat (first | (with_reducible first | exact HB.out | apply below_alloc | apply pw_below_drewN | apply below_drew1) | exact HB.out))) : w.heap.size ≤ gb332)); have n3_ := Aside0.mk ((by rw [hg]; exact (below_size (by repeat (first | (with_reducible first | exact HB.out | apply below_alloc | apply pw_below_drewN | apply below_drew1) | exact HB.out))) : w.heap.size ≤ gb332)); clear HB; have HB := n0_; have BK332 := n1_; have GW332 := n2_; have GE332 := n3_; clear n0_ n1_ n2_ n3_; clear hb hbox hg) | ((with_reducible refine gate_callee (f := 15) rfl ?_); refine goesL_ (some 10) rfl rfl Try.func15 (by kernel_rfl) rfl #[] rfl (by (try simp only [List.map_toArray, List.map_cons, List.map_nil]); first | done | rfl | (simp only [List.length_drop, List.length_take]; rfl)) ?_; (with_reducible refine (calamuslaw01_alive.calls k  true _ A4.out).mono ?_); rintro e w10 ⟨rfl, hb⟩; refine ⟨_, rfl, ?_⟩; have n0_ := Aside0.mk (blk_below (g := gb332) (o := .cells #[.int .i64 a2_0, .int .u64 a2_1] 24 (0, 0)) (by (with_reducible repeat (first | refine blk_drewN ?_ _ | refine blk_drew ?_ | refine blk_alloc ?_ _)); exact BK332.out) hb); have n1_ := Aside0.mk (below_step (by repeat (first | (with_reducible first | exact HB.out | apply below_alloc | apply pw_below_drewN | apply below_drew1 | refine below_set ?_ GE332.out) | exact HB.out)) hb); clear BK332; clear HB; have BK332 := n0_; have HB := n1_; clear n0_ n1_; (try clear hb); (try clear hb2); (try clear hk); (try clear hi); have hcz11_0 : w10.cell? ⟨gb332, 0, none⟩ = some (.int .i64 a2_0) := (blk_cell BK332.out 0).trans rfl; have hcz11_1 : w10.cell? ⟨gb332, 1, none⟩ = some (.int .u64 a2_1) := (blk_cell BK332.out 1).trans rfl; have hfz11_0 := blk_frozen BK332.out 0; have hfz11_1 := blk_frozen BK332.out 1) | ((with_reducible refine gate_callee (f := 17) rfl ?_); refine goesL_ (some 14) rfl rfl Try.func17 (by kernel_rfl) rfl #[.agg #[.int .i64 a2_0, .int .u64 a2_1]] rfl (by (try simp only [List.map_toArray, List.map_cons, List.map_nil]); first | done | rfl | (simp only [List.length_drop, List.length_take]; rfl)) ?_; (with_reducible refine (calamuslaw01_Two_own.calls a2_0 a2_1 t334 t335 _ A6.out).mono ?_); rintro e w12 ⟨rfl, hb⟩; refine ⟨_, rfl, ?_⟩; have n0_ := Aside0.mk (blk_below (g := gb332) (o := .cells #[.int .i64 a2_0, .int .u64 a2_1] 24 (0, 0)) (by (with_reducible repeat (first | refine blk_drewN ?_ _ | refine blk_drew ?_ | refine blk_alloc ?_ _)); exact BK332.out) hb); have n1_ := Aside0.mk (below_step (by repeat (first | (with_reducible first | exact HB.out | apply below_alloc | apply pw_below_drewN | apply below_drew1 | refine below_set ?_ GE332.out) | exact HB.out)) hb); clear BK332; clear HB; have BK332 := n0_; have HB := n1_; clear n0_ n1_; (try clear hb); (try clear hb2); (try clear hk); (try clear hi)) | ((with_reducible refine gate_callee (f := 16) rfl ?_); refine goesL_ (some 15) rfl rfl Try.func16 (by kernel_rfl) rfl #[.agg #[.int .i64 t334, .int .u64 t335]] rfl (by (try simp only [List.map_toArray, List.map_cons, List.map_nil]); first | done | rfl | (simp only [List.length_drop, List.length_take]; rfl)) ?_; (with_reducible refine (wide_Small.calls t334 t335 t336 t337 _ A7.out).mono ?_); rintro e w13 ⟨rfl, hb⟩; refine ⟨_, rfl, ?_⟩; have n0_ := Aside0.mk (blk_below (g := gb332) (o := .cells #[.int .i64 a2_0, .int .u64 a2_1] 24 (0, 0)) (by (with_reducible repeat (first | refine blk_drewN ?_ _ | refine blk_drew ?_ | refine blk_alloc ?_ _)); exact BK332.out) hb); have n1_ := Aside0.mk (below_step (by repeat (first | (with_reducible first | exact HB.out | apply below_alloc | apply pw_below_drewN | apply below_drew1 | refine below_set ?_ GE332.out) | exact HB.out)) hb); clear BK332; clear HB; have BK332 := n0_; have HB := n1_; clear n0_ n1_; (try clear hb); (try clear hb2); (try clear hk); (try clear hi)))
    (try simp only [Act.put, List.setIfInBounds_toArray, List.set_cons_zero, List.set_cons_succ])
    go_cut [9] (fun v9 wc => ∃ (kq : Nat) (x9_7 : Bool), v9 = .bool x9_7 ∧ Aside0 (calamuslaw01_WideMuls.j0 kq a0 a1 t336 t337 x9_7 a2_0 a2_1 = some r) ∧ Aside0 (kq ≤ k) ∧ Aside0 (wc.heap[gb332]? = some (.cells #[.int .i64 a2_0, .int .u64 a2_1] 24 (0, 0))) ∧ Aside0 (Below w.heap.size w wc))
    case first =>
      have H := HC8.out
      clear HC8
      by_cases c14 : a2_0 = 0
      · rw [if_pos c14] at H
        have c14b0 : (a2_0 == 0) = true := beq_iff_eq.mpr c14
        have c14b1 : (a2_0 != 0) = false := bne_eq_false_iff_eq.mpr c14
        clear c14
        (first | rw [c14b0] | (simp only [i64_w, i32_w]; rw [c14b0]) | skip)
        by_cases c15 : a2_1 < 9223372036854775808
        · rw [if_pos c15] at H
          have c15b0 : decide (a2_1 < 9223372036854775808) = true := decide_eq_true c15
          clear c15
          have H' := Aside0.mk H
          clear H
          have hcz16_0 : w13.cell? ⟨gb332, 0, none⟩ = some (.int .i64 a2_0) := (blk_cell BK332.out 0).trans rfl
          have hcz16_1 : w13.cell? ⟨gb332, 1, none⟩ = some (.int .u64 a2_1) := (blk_cell BK332.out 1).trans rfl
          have hfz16_0 := blk_frozen BK332.out 0
          have hfz16_1 := blk_frozen BK332.out 1
          go_wp2
          go_meet
          case rel => exact ⟨_, (true), (by first | rfl | (simp; done) | (simp [*]; done)), H', ⟨by first | omega | exact Nat.le_refl _⟩, ⟨by (with_reducible repeat (first | refine blk_drewN ?_ _ | refine blk_drew ?_ | refine blk_alloc ?_ _)); exact BK332.out⟩, ⟨by repeat (first | (with_reducible first | exact HB.out | apply below_alloc | apply pw_below_drewN | apply below_drew1 | refine below_set ?_ GE332.out) | exact HB.out)⟩⟩
        · rw [if_neg c15] at H
          have c15b0 : decide (a2_1 < 9223372036854775808) = false := decide_eq_false c15
          clear c15
          by_cases c17 : a2_0 = (-1)
          · rw [if_pos c17] at H
            have c17b0 : (a2_0 == (-1)) = true := beq_iff_eq.mpr c17
            have c17b1 : (a2_0 != (-1)) = false := bne_eq_false_iff_eq.mpr c17
            clear c17
            have H' := Aside0.mk H
            clear H
            have hcz18_0 : w13.cell? ⟨gb332, 0, none⟩ = some (.int .i64 a2_0) := (blk_cell BK332.out 0).trans rfl
            have hcz18_1 : w13.cell? ⟨gb332, 1, none⟩ = some (.int .u64 a2_1) := (blk_cell BK332.out 1).trans rfl
            have hfz18_0 := blk_frozen BK332.out 0
            have hfz18_1 := blk_frozen BK332.out 1
            go_wp2
            go_meet
            case rel => exact ⟨_, (decide (a2_1 ≥ 9223372036854775808)), (by first | rfl | (simp; done) | (simp [*]; done)), H', ⟨by first | omega | exact Nat.le_refl _⟩, ⟨by (with_reducible repeat (first | refine blk_drewN ?_ _ | refine blk_drew ?_ | refine blk_alloc ?_ _)); exact BK332.out⟩, ⟨by repeat (first | (with_reducible first | exact HB.out | apply below_alloc | apply pw_below_drewN | apply below_drew1 | refine below_set ?_ GE332.out) | exact HB.out)⟩⟩
          · rw [if_neg c17] at H
            have c17b0 : (a2_0 == (-1)) = false := beq_eq_false_iff_ne.mpr c17
            have c17b1 : (a2_0 != (-1)) = true := bne_iff_ne.mpr c17
            have H' := Aside0.mk H
            clear H
            have hcz19_0 : w13.cell? ⟨gb332, 0, none⟩ = some (.int .i64 a2_0) := (blk_cell BK332.out 0).trans rfl
            have hcz19_1 : w13.cell? ⟨gb332, 1, none⟩ = some (.int .u64 a2_1) := (blk_cell BK332.out 1).trans rfl
            have hfz19_0 := blk_frozen BK332.out 0
            have hfz19_1 := blk_frozen BK332.out 1
            go_wp2
            go_meet
            case rel => exact ⟨_, (false), (by first | rfl | (simp; done) | (simp [*]; done)), H', ⟨by first | omega | exact Nat.le_refl _⟩, ⟨by (with_reducible repeat (first | refine blk_drewN ?_ _ | refine blk_drew ?_ | refine blk_alloc ?_ _)); exact BK332.out⟩, ⟨by repeat (first | (with_reducible first | exact HB.out | apply below_alloc | apply pw_below_drewN | apply below_drew1 | refine below_set ?_ GE332.out) | exact HB.out)⟩⟩
      · rw [if_neg c14] at H
        have c14b0 : (a2_0 == 0) = false := beq_eq_false_iff_ne.mpr c14
        have c14b1 : (a2_0 != 0) = true := bne_iff_ne.mpr c14
        (first | rw [c14b0] | (simp only [i64_w, i32_w]; rw [c14b0]) | skip)
        by_cases c20 : a2_0 = (-1)
        · rw [if_pos c20] at H
          have c20b0 : (a2_0 == (-1)) = true := beq_iff_eq.mpr c20
          have c20b1 : (a2_0 != (-1)) = false := bne_eq_false_iff_eq.mpr c20
          clear c20
          have H' := Aside0.mk H
          clear H
          have hcz21_0 : w13.cell? ⟨gb332, 0, none⟩ = some (.int .i64 a2_0) := (blk_cell BK332.out 0).trans rfl
          have hcz21_1 : w13.cell? ⟨gb332, 1, none⟩ = some (.int .u64 a2_1) := (blk_cell BK332.out 1).trans rfl
          have hfz21_0 := blk_frozen BK332.out 0
          have hfz21_1 := blk_frozen BK332.out 1
          go_wp2
          go_meet
          case rel => exact ⟨_, (decide (a2_1 ≥ 9223372036854775808)), (by first | rfl | (simp; done) | (simp [*]; done)), H', ⟨by first | omega | exact Nat.le_refl _⟩, ⟨by (with_reducible repeat (first | refine blk_drewN ?_ _ | refine blk_drew ?_ | refine blk_alloc ?_ _)); exact BK332.out⟩, ⟨by repeat (first | (with_reducible first | exact HB.out | apply below_alloc | apply pw_below_drewN | apply below_drew1 | refine below_set ?_ GE332.out) | exact HB.out)⟩⟩
        · rw [if_neg c20] at H
          have c20b0 : (a2_0 == (-1)) = false := beq_eq_false_iff_ne.mpr c20
          have c20b1 : (a2_0 != (-1)) = true := bne_iff_ne.mpr c20
          have H' := Aside0.mk H
          clear H
          have hcz22_0 : w13.cell? ⟨gb332, 0, none⟩ = some (.int .i64 a2_0) := (blk_cell BK332.out 0).trans rfl
          have hcz22_1 : w13.cell? ⟨gb332, 1, none⟩ = some (.int .u64 a2_1) := (blk_cell BK332.out 1).trans rfl
          have hfz22_0 := blk_frozen BK332.out 0
          have hfz22_1 := blk_frozen BK332.out 1
          go_wp2
          go_meet
          case rel => exact ⟨_, (false), (by first | rfl | (simp; done) | (simp [*]; done)), H', ⟨by first | omega | exact Nat.le_refl _⟩, ⟨by (with_reducible repeat (first | refine blk_drewN ?_ _ | refine blk_drew ?_ | refine blk_alloc ?_ _)); exact BK332.out⟩, ⟨by repeat (first | (with_reducible first | exact HB.out | apply below_alloc | apply pw_below_drewN | apply below_drew1 | refine below_set ?_ GE332.out) | exact HB.out)⟩⟩
    case rest =>
      clear HC8
      try clear c1
      try clear c2
      try clear p2
      try clear c3
      try clear c5
      try clear c14
      try clear c14b0
      try clear c14b1
      try clear c15
      try clear c15b0
      try clear c16
      try clear c17
      try clear c17b0
      try clear c17b1
      try clear c20
      try clear c20b0
      try clear c20b1
      try clear hcz11_0
      try clear hcz11_1
      try clear hcz16_0
      try clear hcz16_1
      try clear hcz18_0
      try clear hcz18_1
      try clear hcz19_0
      try clear hcz19_1
      try clear hcz21_0
      try clear hcz21_1
      try clear hcz22_0
      try clear hcz22_1
      try clear hfz11_0
      try clear hfz11_1
      try clear hfz16_0
      try clear hfz16_1
      try clear hfz18_0
      try clear hfz18_1
      try clear hfz19_0
      try clear hfz19_1
      try clear hfz21_0
      try clear hfz21_1
      try clear hfz22_0
      try clear hfz22_1
      obtain ⟨kq, x9_7, rfl, HA, HJ7, BK332, HB⟩ := hcut
      cases kq with
      | zero => exact absurd HA.out (by simp [calamuslaw01_WideMuls.j0])
      | succ kj7 =>
        have H := HA.out
        clear HA
        simp only [calamuslaw01_WideMuls.j0] at H
        have HC23 := Aside0.mk H
        clear H
        go_upto_region 5 with (fail)
        go_cut [56] (fun v56 wc => ∃ (kq : Nat) (x56_22 : Bool), v56 = .bool x56_22 ∧ Aside0 (calamuslaw01_WideMuls.j1 kq a0 a1 x56_22 = some r) ∧ Aside0 (kq ≤ kj7) ∧ Aside0 (wc.heap[gb332]? = some (.cells #[.int .i64 a2_0, .int .u64 a2_1] 24 (0, 0))) ∧ Aside0 (Below w.heap.size w wc))
        case first =>
          have H := HC23.out
          clear HC23
          by_cases c24 : (t337 != x9_7) = true
          · rw [if_pos c24] at H
            have c24b0 : (t337 != x9_7) = true := c24
            (try (have c24b1 : decide (t337 = x9_7) = false := by simpa using c24))
            (try (have c24b2 : (t337 == x9_7) = false := by simpa using c24))
            (try (have c24b3 : ¬ (t337 = x9_7) := by simpa using c24))
            clear c24
            (first | rw [c24b0] | (simp only [i64_w, i32_w]; rw [c24b0]) | skip)
            have H' := Aside0.mk H
            clear H
            go_wp2
            go_meet
            case rel => exact ⟨_, (true), (by first | rfl | (simp; done) | (simp [*]; done)), H', ⟨by have := HJ7.out; first | omega | exact Nat.le_refl _⟩, ⟨by (with_reducible repeat (first | refine blk_drewN ?_ _ | refine blk_drew ?_ | refine blk_alloc ?_ _)); exact BK332.out⟩, ⟨by repeat (first | (with_reducible first | exact HB.out | apply below_alloc | apply pw_below_drewN | apply below_drew1 | refine below_set ?_ GE332.out) | exact HB.out)⟩⟩
          · rw [if_neg c24] at H
            have c24b0 : (t337 != x9_7) = false := by simpa using c24
            (try (have c24b1 : decide (t337 = x9_7) = true := by simpa using c24))
            (try (have c24b2 : (t337 == x9_7) = true := by simpa using c24))
            clear c24
            (first | rw [c24b0] | (simp only [i64_w, i32_w]; rw [c24b0]) | skip)
            by_cases c25 : t337 = true
            · subst c25
              have H1 : (if t336 = (wrap64 (a2_1)) then (calamuslaw01_WideMuls.j1 kj7 a0 a1 false) else (calamuslaw01_WideMuls.j1 kj7 a0 a1 true)) = some r := by rw [if_pos rfl] at H; exact H
              clear H
              have H := H1
              clear H1
              by_cases c26 : t336 = (wrap64 (a2_1))
              · rw [if_pos c26] at H
                have c26b0 : (t336 == (wrap64 (a2_1))) = true := beq_iff_eq.mpr c26
                have c26b1 : (t336 != (wrap64 (a2_1))) = false := bne_eq_false_iff_eq.mpr c26
                clear c26
                have H' := Aside0.mk H
                clear H
                have hcz27_0 : wc.cell? ⟨gb332, 0, none⟩ = some (.int .i64 a2_0) := (blk_cell BK332.out 0).trans rfl
                have hcz27_1 : wc.cell? ⟨gb332, 1, none⟩ = some (.int .u64 a2_1) := (blk_cell BK332.out 1).trans rfl
                have hfz27_0 := blk_frozen BK332.out 0
                have hfz27_1 := blk_frozen BK332.out 1
                go_wp2
                go_meet
                case rel => exact ⟨_, (false), (by first | rfl | (simp; done) | (simp [*]; done)), H', ⟨by have := HJ7.out; first | omega | exact Nat.le_refl _⟩, ⟨by (with_reducible repeat (first | refine blk_drewN ?_ _ | refine blk_drew ?_ | refine blk_alloc ?_ _)); exact BK332.out⟩, ⟨by repeat (first | (with_reducible first | exact HB.out | apply below_alloc | apply pw_below_drewN | apply below_drew1 | refine below_set ?_ GE332.out) | exact HB.out)⟩⟩
              · rw [if_neg c26] at H
                have c26b0 : (t336 == (wrap64 (a2_1))) = false := beq_eq_false_iff_ne.mpr c26
                have c26b1 : (t336 != (wrap64 (a2_1))) = true := bne_iff_ne.mpr c26
                have H' := Aside0.mk H
                clear H
                have hcz28_0 : wc.cell? ⟨gb332, 0, none⟩ = some (.int .i64 a2_0) := (blk_cell BK332.out 0).trans rfl
                have hcz28_1 : wc.cell? ⟨gb332, 1, none⟩ = some (.int .u64 a2_1) := (blk_cell BK332.out 1).trans rfl
                have hfz28_0 := blk_frozen BK332.out 0
                have hfz28_1 := blk_frozen BK332.out 1
                go_wp2
                go_meet
                case rel => exact ⟨_, (true), (by first | rfl | (simp; done) | (simp [*]; done)), H', ⟨by have := HJ7.out; first | omega | exact Nat.le_refl _⟩, ⟨by (with_reducible repeat (first | refine blk_drewN ?_ _ | refine blk_drew ?_ | refine blk_alloc ?_ _)); exact BK332.out⟩, ⟨by repeat (first | (with_reducible first | exact HB.out | apply below_alloc | apply pw_below_drewN | apply below_drew1 | refine below_set ?_ GE332.out) | exact HB.out)⟩⟩
            · replace c25 := Bool.eq_false_iff.mpr c25
              subst c25
              have H1 : (calamuslaw01_WideMuls.j1 kj7 a0 a1 (t336 != 0)) = some r := by rw [if_neg (show ¬ (false = true) by decide)] at H; exact H
              clear H
              have H := H1
              clear H1
              have H' := Aside0.mk H
              clear H
              go_wp2
              go_meet
              case rel => exact ⟨_, ((t336 != 0)), (by first | rfl | (simp; done) | (simp [*]; done)), H', ⟨by have := HJ7.out; first | omega | exact Nat.le_refl _⟩, ⟨by (with_reducible repeat (first | refine blk_drewN ?_ _ | refine blk_drew ?_ | refine blk_alloc ?_ _)); exact BK332.out⟩, ⟨by repeat (first | (with_reducible first | exact HB.out | apply below_alloc | apply pw_below_drewN | apply below_drew1 | refine below_set ?_ GE332.out) | exact HB.out)⟩⟩
        case rest =>
          clear HC23
          try clear c1
          try clear c2
          try clear p2
          try clear c3
          try clear c5
          try clear p6
          try clear c14
          try clear c14b0
          try clear c14b1
          try clear c15
          try clear c15b0
          try clear c16
          try clear c17
          try clear c17b0
          try clear c17b1
          try clear c20
          try clear c20b0
          try clear c20b1
          try clear c24
          try clear c24b0
          try clear c24b1
          try clear c24b2
          try clear c25
          try clear c26
          try clear c26b0
          try clear c26b1
          try clear hcz11_0
          try clear hcz11_1
          try clear hcz16_0
          try clear hcz16_1
          try clear hcz18_0
          try clear hcz18_1
          try clear hcz19_0
          try clear hcz19_1
          try clear hcz21_0
          try clear hcz21_1
          try clear hcz22_0
          try clear hcz22_1
          try clear hcz27_0
          try clear hcz27_1
          try clear hcz28_0
          try clear hcz28_1
          try clear hfz11_0
          try clear hfz11_1
          try clear hfz16_0
          try clear hfz16_1
          try clear hfz18_0
          try clear hfz18_1
          try clear hfz19_0
          try clear hfz19_1
          try clear hfz21_0
          try clear hfz21_1
          try clear hfz22_0
          try clear hfz22_1
          try clear hfz27_0
          try clear hfz27_1
          try clear hfz28_0
          try clear hfz28_1
          try clear p2
          obtain ⟨kq, x56_22, rfl, HA, HJ22, BK332, HB⟩ := hcut
          cases kq with
          | zero => exact absurd HA.out (by simp [calamuslaw01_WideMuls.j1])
          | succ kj22 =>
            have H := HA.out
            clear HA
            simp only [calamuslaw01_WideMuls.j1] at H
            by_cases c29 : x56_22 = true
            · subst c29
              have H1 : (none) = some r := by rw [if_pos rfl] at H; exact H
              clear H
              have H := H1
              clear H1
              exact absurd H (by simp)
            · replace c29 := Bool.eq_false_iff.mpr c29
              subst c29
              have H1 : ((wide_Of.f a0).bind fun bt338 => ((calamusref01_Small.f a0).bind fun bt340 => ((calamuslaw01_is.f bt338.1 bt338.2 bt340.1 bt340.2.1 bt340.2.2.1 bt340.2.2.2.1 bt340.2.2.2.2.1 bt340.2.2.2.2.2.1 bt340.2.2.2.2.2.2.1 bt340.2.2.2.2.2.2.2).bind fun t348 => (if t348 = true then ((wide_Mul.f a0 a1).bind fun bt349 => ((calamusref01_Small.f a0).bind fun bt351 => ((calamusref01_Small.f a1).bind fun bt359 => ((calamusref01_Mul.f bt351.1 bt351.2.1 bt351.2.2.1 bt351.2.2.2.1 bt351.2.2.2.2.1 bt351.2.2.2.2.2.1 bt351.2.2.2.2.2.2.1 bt351.2.2.2.2.2.2.2 bt359.1 bt359.2.1 bt359.2.2.1 bt359.2.2.2.1 bt359.2.2.2.2.1 bt359.2.2.2.2.2.1 bt359.2.2.2.2.2.2.1 bt359.2.2.2.2.2.2.2).bind fun bt367 => ((calamuslaw01_is.f bt349.1 bt349.2 bt367.1 bt367.2.1 bt367.2.2.1 bt367.2.2.2.1 bt367.2.2.2.2.1 bt367.2.2.2.2.2.1 bt367.2.2.2.2.2.2.1 bt367.2.2.2.2.2.2.2).bind fun t375 => (some t375)))))) else (none))))) = some r := by rw [if_neg (show ¬ (false = true) by decide)] at H; exact H
              clear H
              have H := H1
              clear H1
              replace H := Option.bind_eq_some_iff.mp H
              obtain ⟨⟨t338, t339⟩, A300, H⟩ := H
              replace H : ((calamusref01_Small.f a0).bind fun bt340 => ((calamuslaw01_is.f t338 t339 bt340.1 bt340.2.1 bt340.2.2.1 bt340.2.2.2.1 bt340.2.2.2.2.1 bt340.2.2.2.2.2.1 bt340.2.2.2.2.2.2.1 bt340.2.2.2.2.2.2.2).bind fun t348 => (if t348 = true then ((wide_Mul.f a0 a1).bind fun bt349 => ((calamusref01_Small.f a0).bind fun bt351 => ((calamusref01_Small.f a1).bind fun bt359 => ((calamusref01_Mul.f bt351.1 bt351.2.1 bt351.2.2.1 bt351.2.2.2.1 bt351.2.2.2.2.1 bt351.2.2.2.2.2.1 bt351.2.2.2.2.2.2.1 bt351.2.2.2.2.2.2.2 bt359.1 bt359.2.1 bt359.2.2.1 bt359.2.2.2.1 bt359.2.2.2.2.1 bt359.2.2.2.2.2.1 bt359.2.2.2.2.2.2.1 bt359.2.2.2.2.2.2.2).bind fun bt367 => ((calamuslaw01_is.f bt349.1 bt349.2 bt367.1 bt367.2.1 bt367.2.2.1 bt367.2.2.2.1 bt367.2.2.2.2.1 bt367.2.2.2.2.2.1 bt367.2.2.2.2.2.2.1 bt367.2.2.2.2.2.2.2).bind fun t375 => (some t375)))))) else (none)))) = some r := H
              have A30 := Aside0.mk A300
              clear A300
              replace H := Option.bind_eq_some_iff.mp H
              obtain ⟨⟨t340, t341, t342, t343, t344, t345, t346, t347⟩, A310, H⟩ := H
              replace H : ((calamuslaw01_is.f t338 t339 t340 t341 t342 t343 t344 t345 t346 t347).bind fun t348 => (if t348 = true then ((wide_Mul.f a0 a1).bind fun bt349 => ((calamusref01_Small.f a0).bind fun bt351 => ((calamusref01_Small.f a1).bind fun bt359 => ((calamusref01_Mul.f bt351.1 bt351.2.1 bt351.2.2.1 bt351.2.2.2.1 bt351.2.2.2.2.1 bt351.2.2.2.2.2.1 bt351.2.2.2.2.2.2.1 bt351.2.2.2.2.2.2.2 bt359.1 bt359.2.1 bt359.2.2.1 bt359.2.2.2.1 bt359.2.2.2.2.1 bt359.2.2.2.2.2.1 bt359.2.2.2.2.2.2.1 bt359.2.2.2.2.2.2.2).bind fun bt367 => ((calamuslaw01_is.f bt349.1 bt349.2 bt367.1 bt367.2.1 bt367.2.2.1 bt367.2.2.2.1 bt367.2.2.2.2.1 bt367.2.2.2.2.2.1 bt367.2.2.2.2.2.2.1 bt367.2.2.2.2.2.2.2).bind fun t375 => (some t375)))))) else (none))) = some r := H
              have A31 := Aside0.mk A310
              clear A310
              replace H := Option.bind_eq_some_iff.mp H
              obtain ⟨t348, A320, H⟩ := H
              replace H : (if t348 = true then ((wide_Mul.f a0 a1).bind fun bt349 => ((calamusref01_Small.f a0).bind fun bt351 => ((calamusref01_Small.f a1).bind fun bt359 => ((calamusref01_Mul.f bt351.1 bt351.2.1 bt351.2.2.1 bt351.2.2.2.1 bt351.2.2.2.2.1 bt351.2.2.2.2.2.1 bt351.2.2.2.2.2.2.1 bt351.2.2.2.2.2.2.2 bt359.1 bt359.2.1 bt359.2.2.1 bt359.2.2.2.1 bt359.2.2.2.2.1 bt359.2.2.2.2.2.1 bt359.2.2.2.2.2.2.1 bt359.2.2.2.2.2.2.2).bind fun bt367 => ((calamuslaw01_is.f bt349.1 bt349.2 bt367.1 bt367.2.1 bt367.2.2.1 bt367.2.2.2.1 bt367.2.2.2.2.1 bt367.2.2.2.2.2.1 bt367.2.2.2.2.2.2.1 bt367.2.2.2.2.2.2.2).bind fun t375 => (some t375)))))) else (none)) = some r := H
              have A32 := Aside0.mk A320
              clear A320
              by_cases c33 : t348 = true
              · subst c33
                have H1 : ((wide_Mul.f a0 a1).bind fun bt349 => ((calamusref01_Small.f a0).bind fun bt351 => ((calamusref01_Small.f a1).bind fun bt359 => ((calamusref01_Mul.f bt351.1 bt351.2.1 bt351.2.2.1 bt351.2.2.2.1 bt351.2.2.2.2.1 bt351.2.2.2.2.2.1 bt351.2.2.2.2.2.2.1 bt351.2.2.2.2.2.2.2 bt359.1 bt359.2.1 bt359.2.2.1 bt359.2.2.2.1 bt359.2.2.2.2.1 bt359.2.2.2.2.2.1 bt359.2.2.2.2.2.2.1 bt359.2.2.2.2.2.2.2).bind fun bt367 => ((calamuslaw01_is.f bt349.1 bt349.2 bt367.1 bt367.2.1 bt367.2.2.1 bt367.2.2.2.1 bt367.2.2.2.2.1 bt367.2.2.2.2.2.1 bt367.2.2.2.2.2.2.1 bt367.2.2.2.2.2.2.2).bind fun t375 => (some t375)))))) = some r := by rw [if_pos rfl] at H; exact H
                clear H
                have H := H1
                clear H1
                replace H := Option.bind_eq_some_iff.mp H
                obtain ⟨⟨t349, t350⟩, A340, H⟩ := H
                replace H : ((calamusref01_Small.f a0).bind fun bt351 => ((calamusref01_Small.f a1).bind fun bt359 => ((calamusref01_Mul.f bt351.1 bt351.2.1 bt351.2.2.1 bt351.2.2.2.1 bt351.2.2.2.2.1 bt351.2.2.2.2.2.1 bt351.2.2.2.2.2.2.1 bt351.2.2.2.2.2.2.2 bt359.1 bt359.2.1 bt359.2.2.1 bt359.2.2.2.1 bt359.2.2.2.2.1 bt359.2.2.2.2.2.1 bt359.2.2.2.2.2.2.1 bt359.2.2.2.2.2.2.2).bind fun bt367 => ((calamuslaw01_is.f t349 t350 bt367.1 bt367.2.1 bt367.2.2.1 bt367.2.2.2.1 bt367.2.2.2.2.1 bt367.2.2.2.2.2.1 bt367.2.2.2.2.2.2.1 bt367.2.2.2.2.2.2.2).bind fun t375 => (some t375))))) = some r := H
                have A34 := Aside0.mk A340
                clear A340
                replace H := Option.bind_eq_some_iff.mp H
                obtain ⟨⟨t351, t352, t353, t354, t355, t356, t357, t358⟩, A350, H⟩ := H
                replace H : ((calamusref01_Small.f a1).bind fun bt359 => ((calamusref01_Mul.f t351 t352 t353 t354 t355 t356 t357 t358 bt359.1 bt359.2.1 bt359.2.2.1 bt359.2.2.2.1 bt359.2.2.2.2.1 bt359.2.2.2.2.2.1 bt359.2.2.2.2.2.2.1 bt359.2.2.2.2.2.2.2).bind fun bt367 => ((calamuslaw01_is.f t349 t350 bt367.1 bt367.2.1 bt367.2.2.1 bt367.2.2.2.1 bt367.2.2.2.2.1 bt367.2.2.2.2.2.1 bt367.2.2.2.2.2.2.1 bt367.2.2.2.2.2.2.2).bind fun t375 => (some t375)))) = some r := H
                have A35 := Aside0.mk A350
                clear A350
                replace H := Option.bind_eq_some_iff.mp H
                obtain ⟨⟨t359, t360, t361, t362, t363, t364, t365, t366⟩, A360, H⟩ := H
                replace H : ((calamusref01_Mul.f t351 t352 t353 t354 t355 t356 t357 t358 t359 t360 t361 t362 t363 t364 t365 t366).bind fun bt367 => ((calamuslaw01_is.f t349 t350 bt367.1 bt367.2.1 bt367.2.2.1 bt367.2.2.2.1 bt367.2.2.2.2.1 bt367.2.2.2.2.2.1 bt367.2.2.2.2.2.2.1 bt367.2.2.2.2.2.2.2).bind fun t375 => (some t375))) = some r := H
                have A36 := Aside0.mk A360
                clear A360
                replace H := Option.bind_eq_some_iff.mp H
                obtain ⟨⟨t367, t368, t369, t370, t371, t372, t373, t374⟩, A370, H⟩ := H
                replace H : ((calamuslaw01_is.f t349 t350 t367 t368 t369 t370 t371 t372 t373 t374).bind fun t375 => (some t375)) = some r := H
                have A37 := Aside0.mk A370
                clear A370
                replace H := Option.bind_eq_some_iff.mp H
                obtain ⟨t375, A380, H⟩ := H
                replace H : (some t375) = some r := H
                have A38 := Aside0.mk A380
                clear A380
                obtain rfl := Option.some.inj H
                go_wp2_with (first | ((with_reducible refine gate_callee (f := 19) rfl ?_); refine goesL_ (some 58) rfl rfl Try.func19 (by kernel_rfl) rfl #[.int .i64 a0] rfl (by (try simp only [List.map_toArray, List.map_cons, List.map_nil]); first | done | rfl | (simp only [List.length_drop, List.length_take]; rfl)) ?_; (with_reducible refine (wide_Of.calls a0 t338 t339 _ A30.out).mono ?_); rintro e w39 ⟨rfl, hb⟩; refine ⟨_, rfl, ?_⟩; have n0_ := Aside0.mk (blk_below (g := gb332) (o := .cells #[.int .i64 a2_0, .int .u64 a2_1] 24 (0, 0)) (by (with_reducible repeat (first | refine blk_drewN ?_ _ | refine blk_drew ?_ | refine blk_alloc ?_ _)); exact BK332.out) hb); have n1_ := Aside0.mk (below_step (by repeat (first | (with_reducible first | exact HB.out | apply below_alloc | apply pw_below_drewN | apply below_drew1 | refine below_set ?_ GE332.out) | exact HB.out)) hb); clear BK332; clear HB; have BK332 := n0_; have HB := n1_; clear n0_ n1_; (try clear hb); (try clear hb2); (try clear hk); (try clear hi)) | ((with_reducible refine gate_callee (f := 20) rfl ?_); refine goesL_ (some 60) rfl rfl Try.func20 (by kernel_rfl) rfl #[.int .i64 a0] rfl (by (try simp only [List.map_toArray, List.map_cons, List.map_nil]); first | done | rfl | (simp only [List.length_drop, List.length_take]; rfl)) ?_; (with_reducible refine (calamusref01_Small.calls a0 t340 t341 t342 t343 t344 t345 t346 t347 _ A31.out).mono ?_); rintro e w40 ⟨rfl, hb⟩; refine ⟨_, rfl, ?_⟩; have n0_ := Aside0.mk (blk_below (g := gb332) (o := .cells #[.int .i64 a2_0, .int .u64 a2_1] 24 (0, 0)) (by (with_reducible repeat (first | refine blk_drewN ?_ _ | refine blk_drew ?_ | refine blk_alloc ?_ _)); exact BK332.out) hb); have n1_ := Aside0.mk (below_step (by repeat (first | (with_reducible first | exact HB.out | apply below_alloc | apply pw_below_drewN | apply below_drew1 | refine below_set ?_ GE332.out) | exact HB.out)) hb); clear BK332; clear HB; have BK332 := n0_; have HB := n1_; clear n0_ n1_; (try clear hb); (try clear hb2); (try clear hk); (try clear hi)) | ((with_reducible refine gate_callee (f := 18) rfl ?_); refine goesL_ (some 61) rfl rfl Try.func18 (by kernel_rfl) rfl #[.agg #[.int .i64 t338, .int .u64 t339], .agg #[.int .u32 t340, .int .u32 t341, .int .u32 t342, .int .u32 t343, .int .u32 t344, .int .u32 t345, .int .u32 t346, .int .u32 t347]] rfl (by (try simp only [List.map_toArray, List.map_cons, List.map_nil]); first | done | rfl | (simp only [List.length_drop, List.length_take]; rfl)) ?_; (with_reducible refine (calamuslaw01_is.calls t338 t339 t340 t341 t342 t343 t344 t345 t346 t347 true _ A32.out).mono ?_); rintro e w41 ⟨rfl, hb⟩; refine ⟨_, rfl, ?_⟩; have n0_ := Aside0.mk (blk_below (g := gb332) (o := .cells #[.int .i64 a2_0, .int .u64 a2_1] 24 (0, 0)) (by (with_reducible repeat (first | refine blk_drewN ?_ _ | refine blk_drew ?_ | refine blk_alloc ?_ _)); exact BK332.out) hb); have n1_ := Aside0.mk (below_step (by repeat (first | (with_reducible first | exact HB.out | apply below_alloc | apply pw_below_drewN | apply below_drew1 | refine below_set ?_ GE332.out) | exact HB.out)) hb); clear BK332; clear HB; have BK332 := n0_; have HB := n1_; clear n0_ n1_; (try clear hb); (try clear hb2); (try clear hk); (try clear hi)) | (go_at_call 21; (with_reducible refine (wide_Mul.calls a0 a1 t349 t350 _ A34.out).mono ?_); rintro e w42 ⟨rfl, hb⟩; have n0_ := Aside0.mk (blk_below (g := gb332) (o := .cells #[.int .i64 a2_0, .int .u64 a2_1] 24 (0, 0)) (by (with_reducible repeat (first | refine blk_drewN ?_ _ | refine blk_drew ?_ | refine blk_alloc ?_ _)); exact BK332.out) hb); have n1_ := Aside0.mk (below_step (by repeat (first | (with_reducible first | exact HB.out | apply below_alloc | apply pw_below_drewN | apply below_drew1 | refine below_set ?_ GE332.out) | exact HB.out)) hb); clear BK332; clear HB; have BK332 := n0_; have HB := n1_; clear n0_ n1_; (try clear hb); (try clear hb2); (try clear hk); (try clear hi)) | (go_at_call 20; (with_reducible refine (calamusref01_Small.calls a0 t351 t352 t353 t354 t355 t356 t357 t358 _ A35.out).mono ?_); rintro e w43 ⟨rfl, hb⟩; have n0_ := Aside0.mk (blk_below (g := gb332) (o := .cells #[.int .i64 a2_0, .int .u64 a2_1] 24 (0, 0)) (by (with_reducible repeat (first | refine blk_drewN ?_ _ | refine blk_drew ?_ | refine blk_alloc ?_ _)); exact BK332.out) hb); have n1_ := Aside0.mk (below_step (by repeat (first | (with_reducible first | exact HB.out | apply below_alloc | apply pw_below_drewN | apply below_drew1 | refine below_set ?_ GE332.out) | exact HB.out)) hb); clear BK332; clear HB; have BK332 := n0_; have HB := n1_; clear n0_ n1_; (try clear hb); (try clear hb2); (try clear hk); (try clear hi)) | (go_at_call 20; (with_reducible refine (calamusref01_Small.calls a1 t359 t360 t361 t362 t363 t364 t365 t366 _ A36.out).mono ?_); rintro e w44 ⟨rfl, hb⟩; have n0_ := Aside0.mk (blk_below (g := gb332) (o := .cells #[.int .i64 a2_0, .int .u64 a2_1] 24 (0, 0)) (by (with_reducible repeat (first | refine blk_drewN ?_ _ | refine blk_drew ?_ | refine blk_alloc ?_ _)); exact BK332.out) hb); have n1_ := Aside0.mk (below_step (by repeat (first | (with_reducible first | exact HB.out | apply below_alloc | apply pw_below_drewN | apply below_drew1 | refine below_set ?_ GE332.out) | exact HB.out)) hb); clear BK332; clear HB; have BK332 := n0_; have HB := n1_; clear n0_ n1_; (try clear hb); (try clear hb2); (try clear hk); (try clear hi)) | (go_at_call 22; (with_reducible refine (calamusref01_Mul.calls t351 t352 t353 t354 t355 t356 t357 t358 t359 t360 t361 t362 t363 t364 t365 t366 t367 t368 t369 t370 t371 t372 t373 t374 _ A37.out).mono ?_); rintro e w45 ⟨rfl, hb⟩; have n0_ := Aside0.mk (blk_below (g := gb332) (o := .cells #[.int .i64 a2_0, .int .u64 a2_1] 24 (0, 0)) (by (with_reducible repeat (first | refine blk_drewN ?_ _ | refine blk_drew ?_ | refine blk_alloc ?_ _)); exact BK332.out) hb); have n1_ := Aside0.mk (below_step (by repeat (first | (with_reducible first | exact HB.out | apply below_alloc | apply pw_below_drewN | apply below_drew1 | refine below_set ?_ GE332.out) | exact HB.out)) hb); clear BK332; clear HB; have BK332 := n0_; have HB := n1_; clear n0_ n1_; (try clear hb); (try clear hb2); (try clear hk); (try clear hi)) | (go_at_call 18; (with_reducible refine (calamuslaw01_is.calls t349 t350 t367 t368 t369 t370 t371 t372 t373 t374 t375 _ A38.out).mono ?_); rintro e w46 ⟨rfl, hb⟩; have n0_ := Aside0.mk (blk_below (g := gb332) (o := .cells #[.int .i64 a2_0, .int .u64 a2_1] 24 (0, 0)) (by (with_reducible repeat (first | refine blk_drewN ?_ _ | refine blk_drew ?_ | refine blk_alloc ?_ _)); exact BK332.out) hb); have n1_ := Aside0.mk (below_step (by repeat (first | (with_reducible first | exact HB.out | apply below_alloc | apply pw_below_drewN | apply below_drew1 | refine below_set ?_ GE332.out) | exact HB.out)) hb); clear BK332; clear HB; have BK332 := n0_; have HB := n1_; clear n0_ n1_; (try clear hb); (try clear hb2); (try clear hk); (try clear hi)))
                go_ret
                exact ⟨by first | rfl | (simp [errW_none, errW_some] <;> rfl) | (simp [*, errW_none, errW_some] <;> rfl), by repeat (first | (with_reducible first | exact HB.out | apply below_alloc | apply pw_below_drewN | apply below_drew1 | refine below_set ?_ GE332.out) | exact HB.out)⟩
              · replace c33 := Bool.eq_false_iff.mpr c33
                subst c33
                have H1 : (none) = some r := by rw [if_neg (show ¬ (false = true) by decide)] at H; exact H
                clear H
                have H := H1
                clear H1
                exact absurd H (by simp)
  · replace c5 := Bool.eq_false_iff.mpr c5
    subst c5
    have H1 : (none) = some r := by rw [if_neg (show ¬ (false = true) by decide)] at H; exact H
    clear H
    have H := H1
    clear H1
    exact absurd H (by simp)

end Go.Proofs.Ytiicdgimffpckaa.W
