/- What Go functions answer, as Lean functions, and that they do: written by wip/xprint.py of this session (the kit's printer with turns, texts by hand among them). -/
import Derived.Test.YtoghjnmcimniaaaQ0
import Derived.Test.YtoghjnmcimniaaaQd0
import Derived.Test.YtoghjnmcimniaaaQf53
import Derived.Test.YtoghjnmcimniaaaQf58
namespace Go.Proofs.Ytoghjnmcimniaaa.Q
open Go.RowKit Go.Proofs.YtoghjnmcimniaaaW.PrintWords Go.Proofs.YtoghjnmcimniaaaW.PrintLast Go.Proofs.YtoghjnmcimniaaaW.PrintMore
attribute [local go_sem] max2_int min2_int max_two min_two max_three min_three max_four min_four   -- for this text's walks alone
set_option linter.unusedVariables false
set_option linter.unusedSimpArgs false

/-! ### quad_Split: function 36 -/
def quad_Split.T5 : Bool × List (List Nat × List Nat) := (true, [([], []), ([0], [0]), ([], []), ([2, 1], [2]), ([0, 1], []), ([4, 1, 3, 0, 1], [1, 4]), ([0, 1, 2, 3, 4, 5], []), ([6, 3, 5, 0, 1, 2, 3, 4, 5], [3, 6])])
def quad_Split.B5 : List Nat := [0, 1, 0, 7, 3, 31, 63, 127]
theorem quad_Split.tab5 : rtab .any (opsOf Try.f36 5) = quad_Split.T5 := by kernel_rfl
theorem quad_Split.bits5 : waitsOk quad_Split.T5.2 quad_Split.B5 = true := by kernel_rfl
def quad_Split.T10 : Bool × List (List Nat × List Nat) := (true, [([], []), ([0], [0]), ([], []), ([2, 1], [2]), ([], []), ([4, 3], [4]), ([0, 1], []), ([6, 1, 5, 0, 1], [1, 6]), ([0, 1, 2, 3, 6, 7], []), ([8, 3, 7, 0, 1, 2, 3, 6, 7], [3, 8]), ([0, 1, 2, 3, 4, 5, 6, 7, 8, 9], []), ([10, 5, 9, 0, 1, 2, 3, 4, 5, 6, 7, 8, 9], [5, 10])])
def quad_Split.B10 : List Nat := [0, 1, 0, 7, 0, 31, 3, 127, 255, 511, 1023, 2047]
theorem quad_Split.tab10 : rtab .any (opsOf Try.f36 10) = quad_Split.T10 := by kernel_rfl
theorem quad_Split.bits10 : waitsOk quad_Split.T10.2 quad_Split.B10 = true := by kernel_rfl
set_option maxHeartbeats 8000000 in
set_option maxRecDepth 100000 in
theorem quad_Split.calls (k : Nat) (a0_0 : Int) (a0_1 : Int) (a0_2 : Int) (a0_3 : Int) (a0_4 : Int) (a0_5 : Int) (a0_6 : Bool) (r1 : Int) (r2 : Int) (r3 : Int) (r4 : Int) (r5 : Int) (r6 : Int) (r7 : Bool) (r8 : Int) (r9 : Int) (r10 : Int) (r11 : Int) (r12 : Int) (r13 : Int) (r14 : Bool) (r15 : Int) (w : World) (h : quad_Split.f k a0_0 a0_1 a0_2 a0_3 a0_4 a0_5 a0_6 = some (r1, r2, r3, r4, r5, r6, r7, r8, r9, r10, r11, r12, r13, r14, r15)) :
    Calls Try.prog 36 #[.agg #[.int .i64 a0_0, .int .i64 a0_1, .int .i64 a0_2, .int .i64 a0_3, .int .i64 a0_4, .int .i64 a0_5, .bool a0_6]] w fun e w' => e = .returned (.tuple #[.agg #[.int .i64 r1, .int .i64 r2, .int .i64 r3, .int .i64 r4, .int .i64 r5, .int .i64 r6, .bool r7], .agg #[.int .i64 r8, .int .i64 r9, .int .i64 r10, .int .i64 r11, .int .i64 r12, .int .i64 r13, .bool r14], .int .i64 r15]) ∧ Below w.heap.size w w' := by
  have hu37 := Try.underlying37
  have hu33 := Try.underlying33
  have HB := Aside0.mk (Below.refl w.heap.size w)
  have H : (if a0_6 = true then (quad_Split.j0 k a0_0 a0_1 a0_2 a0_3 a0_4 a0_5 a0_6 0 0 0 0 0 0 false 0 0 0 0 0 0 false) else (quad_Split.j0 k a0_0 a0_1 0 0 a0_4 a0_5 a0_6 0 0 0 0 0 0 false 0 0 0 0 0 0 false)) = some (r1, r2, r3, r4, r5, r6, r7, r8, r9, r10, r11, r12, r13, r14, r15) := h
  clear h
  have HC2 := Aside0.mk H
  clear H
  go_enter Try.func36, Try.ntmps36
  go_upto_if 7 with (first | ((with_reducible refine gate_dst (N := 1) rfl ?_); refine box_event ?hg (N := 1) ?hd (cs := #[.int .i64 a0_0, .int .i64 a0_1, .int .i64 a0_2, .int .i64 a0_3, .int .i64 a0_4, .int .i64 a0_5, .bool a0_6]) (t := 37) ?hr ?_; (case hd => rfl); (case hg => rfl); (case hr => first | (go_simp; done) | (go_simp; rfl)); intro gb127 hg w3 hbox hb; have n0_ := Aside0.mk (below_step (by repeat (first | (with_reducible first | exact HB.out | apply below_alloc | apply pw_below_drewN | apply below_drew1) | exact HB.out)) hb); have n1_ := Aside0.mk (hbox); have n2_ := Aside0.mk ((by rw [hg]; exact (below_size (by repeat (first | (with_reducible first | exact HB.out | apply below_alloc | apply pw_below_drewN | apply below_drew1) | exact HB.out))) : w.heap.size ≤ gb127)); have n3_ := Aside0.mk ((by rw [hg]; exact (below_size (by repeat (first | (with_reducible first | exact HB.out | apply below_alloc | apply pw_below_drewN | apply below_drew1) | exact HB.out))) : w.heap.size ≤ gb127)); clear HB; have HB := n0_; have BK127 := n1_; have GW127 := n2_; have GE127 := n3_; clear n0_ n1_ n2_ n3_; clear hb hbox hg) | ((with_reducible refine gate_dst (N := 2) rfl ?_); refine box_event ?hg (N := 2) ?hd (cs := #[.int .i64 0, .int .i64 0, .int .i64 0, .int .i64 0, .int .i64 0, .int .i64 0, .bool false]) (t := 37) ?hr ?_; (case hd => rfl); (case hg => rfl); (case hr => first | (go_simp; done) | (go_simp; rfl)); intro gb128 hg w4 hbox hb; have n0_ := Aside0.mk (blk_below (g := gb127) (o := .cells #[.int .i64 a0_0, .int .i64 a0_1, .int .i64 a0_2, .int .i64 a0_3, .int .i64 a0_4, .int .i64 a0_5, .bool a0_6] 37 (0, 0)) (by (with_reducible repeat (first | refine blk_drewN ?_ _ | refine blk_drew ?_ | refine blk_alloc ?_ _)); exact BK127.out) hb); have n1_ := Aside0.mk (below_step (by repeat (first | (with_reducible first | exact HB.out | apply below_alloc | apply pw_below_drewN | apply below_drew1 | refine below_set ?_ GE127.out) | exact HB.out)) hb); have n2_ := Aside0.mk (hbox); have n3_ := Aside0.mk ((by rw [hg]; exact (below_size (by repeat (first | (with_reducible first | exact HB.out | apply below_alloc | apply pw_below_drewN | apply below_drew1 | refine below_set ?_ GE127.out) | exact HB.out))) : w.heap.size ≤ gb128)); have n4_ := Aside0.mk ((by rw [hg]; exact (below_size (by repeat (first | (with_reducible first | exact HB.out | apply below_alloc | apply pw_below_drewN | apply below_drew1 | refine below_set ?_ GE127.out) | exact HB.out))) : w.heap.size ≤ gb128)); have n5_ := Aside0.mk ((by rw [hg]; exact Nat.ne_of_lt (blk_lt (g := gb127) (o := .cells #[.int .i64 a0_0, .int .i64 a0_1, .int .i64 a0_2, .int .i64 a0_3, .int .i64 a0_4, .int .i64 a0_5, .bool a0_6] 37 (0, 0)) (by (with_reducible repeat (first | refine blk_drewN ?_ _ | refine blk_drew ?_ | refine blk_alloc ?_ _)); exact BK127.out)) : gb127 ≠ gb128)); have n6_ := Aside0.mk ((by rw [hg]; exact Nat.ne_of_gt (blk_lt (g := gb127) (o := .cells #[.int .i64 a0_0, .int .i64 a0_1, .int .i64 a0_2, .int .i64 a0_3, .int .i64 a0_4, .int .i64 a0_5, .bool a0_6] 37 (0, 0)) (by (with_reducible repeat (first | refine blk_drewN ?_ _ | refine blk_drew ?_ | refine blk_alloc ?_ _)); exact BK127.out)) : gb128 ≠ gb127)); clear BK127; clear HB; have BK127 := n0_; have HB := n1_; have BK128 := n2_; have GW128 := n3_; have GE128 := n4_; have NB127_128 := n5_; have NB128_127 := n6_; clear n0_ n1_ n2_ n3_ n4_ n5_ n6_; clear hb hbox hg) | ((with_reducible refine gate_dst (N := 3) rfl ?_); refine box_event ?hg (N := 3) ?hd (cs := #[.int .i64 0, .int .i64 0, .int .i64 0, .int .i64 0, .int .i64 0, .int .i64 0, .bool false]) (t := 37) ?hr ?_; (case hd => rfl); (case hg => rfl); (case hr => first | (go_simp; done) | (go_simp; rfl)); intro gb129 hg w5 hbox hb; have n0_ := Aside0.mk (blk_below (g := gb127) (o := .cells #[.int .i64 a0_0, .int .i64 a0_1, .int .i64 a0_2, .int .i64 a0_3, .int .i64 a0_4, .int .i64 a0_5, .bool a0_6] 37 (0, 0)) (by (with_reducible repeat (first | refine blk_drewN ?_ _ | refine blk_drew ?_ | refine blk_alloc ?_ _)); exact BK127.out) hb); have n1_ := Aside0.mk (blk_below (g := gb128) (o := .cells #[.int .i64 0, .int .i64 0, .int .i64 0, .int .i64 0, .int .i64 0, .int .i64 0, .bool false] 37 (0, 0)) (by (with_reducible repeat (first | refine blk_drewN ?_ _ | refine blk_drew ?_ | refine blk_alloc ?_ _)); exact BK128.out) hb); have n2_ := Aside0.mk (below_step (by repeat (first | (with_reducible first | exact HB.out | apply below_alloc | apply pw_below_drewN | apply below_drew1 | refine below_set ?_ GE127.out | refine below_set ?_ GE128.out) | exact HB.out)) hb); have n3_ := Aside0.mk (hbox); have n4_ := Aside0.mk ((by rw [hg]; exact (below_size (by repeat (first | (with_reducible first | exact HB.out | apply below_alloc | apply pw_below_drewN | apply below_drew1 | refine below_set ?_ GE127.out | refine below_set ?_ GE128.out) | exact HB.out))) : w.heap.size ≤ gb129)); have n5_ := Aside0.mk ((by rw [hg]; exact (below_size (by repeat (first | (with_reducible first | exact HB.out | apply below_alloc | apply pw_below_drewN | apply below_drew1 | refine below_set ?_ GE127.out | refine below_set ?_ GE128.out) | exact HB.out))) : w.heap.size ≤ gb129)); have n6_ := Aside0.mk ((by rw [hg]; exact Nat.ne_of_lt (blk_lt (g := gb127) (o := .cells #[.int .i64 a0_0, .int .i64 a0_1, .int .i64 a0_2, .int .i64 a0_3, .int .i64 a0_4, .int .i64 a0_5, .bool a0_6] 37 (0, 0)) (by (with_reducible repeat (first | refine blk_drewN ?_ _ | refine blk_drew ?_ | refine blk_alloc ?_ _)); exact BK127.out)) : gb127 ≠ gb129)); have n7_ := Aside0.mk ((by rw [hg]; exact Nat.ne_of_gt (blk_lt (g := gb127) (o := .cells #[.int .i64 a0_0, .int .i64 a0_1, .int .i64 a0_2, .int .i64 a0_3, .int .i64 a0_4, .int .i64 a0_5, .bool a0_6] 37 (0, 0)) (by (with_reducible repeat (first | refine blk_drewN ?_ _ | refine blk_drew ?_ | refine blk_alloc ?_ _)); exact BK127.out)) : gb129 ≠ gb127)); have n8_ := Aside0.mk ((by rw [hg]; exact Nat.ne_of_lt (blk_lt (g := gb128) (o := .cells #[.int .i64 0, .int .i64 0, .int .i64 0, .int .i64 0, .int .i64 0, .int .i64 0, .bool false] 37 (0, 0)) (by (with_reducible repeat (first | refine blk_drewN ?_ _ | refine blk_drew ?_ | refine blk_alloc ?_ _)); exact BK128.out)) : gb128 ≠ gb129)); have n9_ := Aside0.mk ((by rw [hg]; exact Nat.ne_of_gt (blk_lt (g := gb128) (o := .cells #[.int .i64 0, .int .i64 0, .int .i64 0, .int .i64 0, .int .i64 0, .int .i64 0, .bool false] 37 (0, 0)) (by (with_reducible repeat (first | refine blk_drewN ?_ _ | refine blk_drew ?_ | refine blk_alloc ?_ _)); exact BK128.out)) : gb129 ≠ gb128)); clear BK127; clear BK128; clear HB; have BK127 := n0_; have BK128 := n1_; have HB := n2_; have BK129 := n3_; have GW129 := n4_; have GE129 := n5_; have NB127_129 := n6_; have NB129_127 := n7_; have NB128_129 := n8_; have NB129_128 := n9_; clear n0_ n1_ n2_ n3_ n4_ n5_ n6_ n7_ n8_ n9_; clear hb hbox hg; have hnb6 := NB127_128.out; have hnc6 := NB128_127.out; have hnb7 := NB127_129.out; have hnc7 := NB129_127.out; have hcz8_0 : w5.cell? ⟨gb127, 0, none⟩ = some (.int .i64 a0_0) := (blk_cell BK127.out 0).trans rfl; have hcz8_1 : w5.cell? ⟨gb127, 1, none⟩ = some (.int .i64 a0_1) := (blk_cell BK127.out 1).trans rfl; have hcz8_2 : w5.cell? ⟨gb127, 2, none⟩ = some (.int .i64 a0_2) := (blk_cell BK127.out 2).trans rfl; have hcz8_3 : w5.cell? ⟨gb127, 3, none⟩ = some (.int .i64 a0_3) := (blk_cell BK127.out 3).trans rfl; have hcz8_4 : w5.cell? ⟨gb127, 4, none⟩ = some (.int .i64 a0_4) := (blk_cell BK127.out 4).trans rfl; have hcz8_5 : w5.cell? ⟨gb127, 5, none⟩ = some (.int .i64 a0_5) := (blk_cell BK127.out 5).trans rfl; have hcz8_6 : w5.cell? ⟨gb127, 6, none⟩ = some (.bool a0_6) := (blk_cell BK127.out 6).trans rfl; have hfz8_0 := blk_frozen BK127.out 0; have hfz8_1 := blk_frozen BK127.out 1; have hfz8_2 := blk_frozen BK127.out 2; have hfz8_3 := blk_frozen BK127.out 3; have hfz8_4 := blk_frozen BK127.out 4; have hfz8_5 := blk_frozen BK127.out 5; have hfz8_6 := blk_frozen BK127.out 6))
  (try simp only [Act.put, List.setIfInBounds_toArray, List.set_cons_zero, List.set_cons_succ])
  go_cut [] (fun wc => ∃ (kq : Nat) (x128002_1 : Int) (x128003_1 : Int), Aside0 (quad_Split.j0 kq a0_0 a0_1 x128002_1 x128003_1 a0_4 a0_5 a0_6 0 0 0 0 0 0 false 0 0 0 0 0 0 false = some (r1, r2, r3, r4, r5, r6, r7, r8, r9, r10, r11, r12, r13, r14, r15)) ∧ Aside0 (kq ≤ k) ∧ Aside0 (wc.heap[gb127]? = some (.cells #[.int .i64 a0_0, .int .i64 a0_1, .int .i64 x128002_1, .int .i64 x128003_1, .int .i64 a0_4, .int .i64 a0_5, .bool a0_6] 37 (0, 0))) ∧ Aside0 (wc.heap[gb128]? = some (.cells #[.int .i64 0, .int .i64 0, .int .i64 0, .int .i64 0, .int .i64 0, .int .i64 0, .bool false] 37 (0, 0))) ∧ Aside0 (wc.heap[gb129]? = some (.cells #[.int .i64 0, .int .i64 0, .int .i64 0, .int .i64 0, .int .i64 0, .int .i64 0, .bool false] 37 (0, 0))) ∧ Aside0 (Below w.heap.size w wc))
  case first =>
    have H := HC2.out
    clear HC2
    by_cases c9 : a0_6 = true
    · subst c9
      have H1 : (quad_Split.j0 k a0_0 a0_1 a0_2 a0_3 a0_4 a0_5 true 0 0 0 0 0 0 false 0 0 0 0 0 0 false) = some (r1, r2, r3, r4, r5, r6, r7, r8, r9, r10, r11, r12, r13, r14, r15) := by rw [if_pos rfl] at H; exact H
      clear H
      have H := H1
      clear H1
      have H' := Aside0.mk H
      clear H
      go_wp2
      go_meet
      case rel => exact ⟨_, (a0_2), (a0_3), H', ⟨by first | omega | exact Nat.le_refl _⟩, ⟨by (with_reducible repeat (first | refine blk_drewN ?_ _ | refine blk_drew ?_ | refine blk_alloc ?_ _)); exact BK127.out⟩, ⟨by (with_reducible repeat (first | refine blk_drewN ?_ _ | refine blk_drew ?_ | refine blk_alloc ?_ _)); exact BK128.out⟩, ⟨by (with_reducible repeat (first | refine blk_drewN ?_ _ | refine blk_drew ?_ | refine blk_alloc ?_ _)); exact BK129.out⟩, ⟨by repeat (first | (with_reducible first | exact HB.out | apply below_alloc | apply pw_below_drewN | apply below_drew1 | refine below_set ?_ GE127.out | refine below_set ?_ GE128.out | refine below_set ?_ GE129.out) | exact HB.out)⟩⟩
    · replace c9 := Bool.eq_false_iff.mpr c9
      subst c9
      have H1 : (quad_Split.j0 k a0_0 a0_1 0 0 a0_4 a0_5 false 0 0 0 0 0 0 false 0 0 0 0 0 0 false) = some (r1, r2, r3, r4, r5, r6, r7, r8, r9, r10, r11, r12, r13, r14, r15) := by rw [if_neg (show ¬ (false = true) by decide)] at H; exact H
      clear H
      have H := H1
      clear H1
      have H' := Aside0.mk H
      clear H
      have hnb10 := NB127_128.out
      have hnc10 := NB128_127.out
      have hnb11 := NB127_129.out
      have hnc11 := NB129_127.out
      have hcz12_0 : w5.cell? ⟨gb127, 0, none⟩ = some (.int .i64 a0_0) := (blk_cell BK127.out 0).trans rfl
      have hcz12_1 : w5.cell? ⟨gb127, 1, none⟩ = some (.int .i64 a0_1) := (blk_cell BK127.out 1).trans rfl
      have hcz12_2 : w5.cell? ⟨gb127, 2, none⟩ = some (.int .i64 a0_2) := (blk_cell BK127.out 2).trans rfl
      have hcz12_3 : w5.cell? ⟨gb127, 3, none⟩ = some (.int .i64 a0_3) := (blk_cell BK127.out 3).trans rfl
      have hcz12_4 : w5.cell? ⟨gb127, 4, none⟩ = some (.int .i64 a0_4) := (blk_cell BK127.out 4).trans rfl
      have hcz12_5 : w5.cell? ⟨gb127, 5, none⟩ = some (.int .i64 a0_5) := (blk_cell BK127.out 5).trans rfl
      have hcz12_6 : w5.cell? ⟨gb127, 6, none⟩ = some (.bool false) := (blk_cell BK127.out 6).trans rfl
      have hfz12_0 := blk_frozen BK127.out 0
      have hfz12_1 := blk_frozen BK127.out 1
      have hfz12_2 := blk_frozen BK127.out 2
      have hfz12_3 := blk_frozen BK127.out 3
      have hfz12_4 := blk_frozen BK127.out 4
      have hfz12_5 := blk_frozen BK127.out 5
      have hfz12_6 := blk_frozen BK127.out 6
      go_wp2
      go_meet
      case rel => exact ⟨_, (0), (0), H', ⟨by first | omega | exact Nat.le_refl _⟩, ⟨by (with_reducible repeat (first | refine blk_drewN ?_ _ | refine blk_drew ?_ | refine blk_alloc ?_ _)); refine blk_put (cs := #[.int .i64 a0_0, .int .i64 a0_1, .int .i64 0, .int .i64 a0_3, .int .i64 a0_4, .int .i64 a0_5, .bool false]) ?_ 3 _ rfl; (with_reducible repeat (first | refine blk_drewN ?_ _ | refine blk_drew ?_ | refine blk_alloc ?_ _)); refine blk_put (cs := #[.int .i64 a0_0, .int .i64 a0_1, .int .i64 a0_2, .int .i64 a0_3, .int .i64 a0_4, .int .i64 a0_5, .bool false]) ?_ 2 _ rfl; (with_reducible repeat (first | refine blk_drewN ?_ _ | refine blk_drew ?_ | refine blk_alloc ?_ _)); exact BK127.out⟩, ⟨by (with_reducible repeat (first | refine blk_drewN ?_ _ | refine blk_drew ?_ | refine blk_alloc ?_ _)); refine blk_far ?_ NB128_127.out _; (with_reducible repeat (first | refine blk_drewN ?_ _ | refine blk_drew ?_ | refine blk_alloc ?_ _)); refine blk_far ?_ NB128_127.out _; (with_reducible repeat (first | refine blk_drewN ?_ _ | refine blk_drew ?_ | refine blk_alloc ?_ _)); exact BK128.out⟩, ⟨by (with_reducible repeat (first | refine blk_drewN ?_ _ | refine blk_drew ?_ | refine blk_alloc ?_ _)); refine blk_far ?_ NB129_127.out _; (with_reducible repeat (first | refine blk_drewN ?_ _ | refine blk_drew ?_ | refine blk_alloc ?_ _)); refine blk_far ?_ NB129_127.out _; (with_reducible repeat (first | refine blk_drewN ?_ _ | refine blk_drew ?_ | refine blk_alloc ?_ _)); exact BK129.out⟩, ⟨by repeat (first | (with_reducible first | exact HB.out | apply below_alloc | apply pw_below_drewN | apply below_drew1 | refine below_set ?_ GE127.out | refine below_set ?_ GE128.out | refine below_set ?_ GE129.out) | exact HB.out)⟩⟩
  case rest =>
    clear HC2
    try clear c1
    try clear p2
    try clear c3
    try clear c6
    try clear c7
    try clear c9
    try clear c10
    try clear c11
    try clear hcz12_0
    try clear hcz12_1
    try clear hcz12_2
    try clear hcz12_3
    try clear hcz12_4
    try clear hcz12_5
    try clear hcz12_6
    try clear hcz8_0
    try clear hcz8_1
    try clear hcz8_2
    try clear hcz8_3
    try clear hcz8_4
    try clear hcz8_5
    try clear hcz8_6
    try clear hfz12_0
    try clear hfz12_1
    try clear hfz12_2
    try clear hfz12_3
    try clear hfz12_4
    try clear hfz12_5
    try clear hfz12_6
    try clear hfz8_0
    try clear hfz8_1
    try clear hfz8_2
    try clear hfz8_3
    try clear hfz8_4
    try clear hfz8_5
    try clear hfz8_6
    obtain ⟨kq, x128002_1, x128003_1, HA, HJ1, BK127, BK128, BK129, HB⟩ := hcut
    cases kq with
    | zero => exact absurd HA.out (by simp [quad_Split.j0])
    | succ kj1 =>
      have H := HA.out
      clear HA
      simp only [quad_Split.j0] at H
      obtain ⟨y130, hy130⟩ : ∃ y_ : List (S33), y_ = (([(⟨a0_0, a0_1⟩ : S33), (⟨a0_4, a0_5⟩ : S33), (⟨x128002_1, x128003_1⟩ : S33)] : List (S33))) := ⟨_, rfl⟩
      replace H : ((quad_near.f kj1 y130).bind fun t133 => (if t133 = true then ((quad_mix.f a0_0 a0_1 x128002_1 x128003_1 a0_4 a0_5 a0_6 4 0 0).bind fun bt134 => ((quad_mix.f a0_0 a0_1 x128002_1 x128003_1 a0_4 a0_5 a0_6 0 0 4).bind fun bt136 => (if a0_6 = true then ((quad_mix.f a0_0 a0_1 x128002_1 x128003_1 a0_4 a0_5 a0_6 2 2 0).bind fun bt138 => ((quad_mix.f a0_0 a0_1 x128002_1 x128003_1 a0_4 a0_5 a0_6 1 2 1).bind fun bt140 => ((quad_mix.f a0_0 a0_1 x128002_1 x128003_1 a0_4 a0_5 a0_6 0 2 2).bind fun bt142 => (some (bt134.1, bt134.2, bt138.1, bt138.2, bt140.1, bt140.2, true, bt140.1, bt140.2, bt142.1, bt142.2, bt136.1, bt136.2, true, 0))))) else ((quad_mix.f a0_0 a0_1 x128002_1 x128003_1 a0_4 a0_5 a0_6 2 0 2).bind fun bt144 => (some (bt134.1, bt134.2, 0, 0, bt144.1, bt144.2, false, bt144.1, bt144.2, 0, 0, bt136.1, bt136.2, false, 0)))))) else (some (0, 0, 0, 0, 0, 0, false, 0, 0, 0, 0, 0, 0, false, 6)))) = some (r1, r2, r3, r4, r5, r6, r7, r8, r9, r10, r11, r12, r13, r14, r15) := by first | (rw [hy130]; with_reducible exact H) | (have H2_ := (Option.bind_some _ _).symm.trans H; rw [hy130]; with_reducible exact H2_) | (have H2_ := (Option.bind_some _ _).symm.trans H; with_reducible exact H2_) | with_reducible exact H | (rw [hy130]; exact H) | exact H
      have Ny130 := Aside0.mk hy130
      clear hy130
      replace H := Option.bind_eq_some_iff.mp H
      obtain ⟨t133, A130, H⟩ := H
      replace H : (if t133 = true then ((quad_mix.f a0_0 a0_1 x128002_1 x128003_1 a0_4 a0_5 a0_6 4 0 0).bind fun bt134 => ((quad_mix.f a0_0 a0_1 x128002_1 x128003_1 a0_4 a0_5 a0_6 0 0 4).bind fun bt136 => (if a0_6 = true then ((quad_mix.f a0_0 a0_1 x128002_1 x128003_1 a0_4 a0_5 a0_6 2 2 0).bind fun bt138 => ((quad_mix.f a0_0 a0_1 x128002_1 x128003_1 a0_4 a0_5 a0_6 1 2 1).bind fun bt140 => ((quad_mix.f a0_0 a0_1 x128002_1 x128003_1 a0_4 a0_5 a0_6 0 2 2).bind fun bt142 => (some (bt134.1, bt134.2, bt138.1, bt138.2, bt140.1, bt140.2, true, bt140.1, bt140.2, bt142.1, bt142.2, bt136.1, bt136.2, true, 0))))) else ((quad_mix.f a0_0 a0_1 x128002_1 x128003_1 a0_4 a0_5 a0_6 2 0 2).bind fun bt144 => (some (bt134.1, bt134.2, 0, 0, bt144.1, bt144.2, false, bt144.1, bt144.2, 0, 0, bt136.1, bt136.2, false, 0)))))) else (some (0, 0, 0, 0, 0, 0, false, 0, 0, 0, 0, 0, 0, false, 6))) = some (r1, r2, r3, r4, r5, r6, r7, r8, r9, r10, r11, r12, r13, r14, r15) := H
      have A13 := Aside0.mk A130
      clear A130
      by_cases c14 : t133 = true
      · subst c14
        have H1 : ((quad_mix.f a0_0 a0_1 x128002_1 x128003_1 a0_4 a0_5 a0_6 4 0 0).bind fun bt134 => ((quad_mix.f a0_0 a0_1 x128002_1 x128003_1 a0_4 a0_5 a0_6 0 0 4).bind fun bt136 => (if a0_6 = true then ((quad_mix.f a0_0 a0_1 x128002_1 x128003_1 a0_4 a0_5 a0_6 2 2 0).bind fun bt138 => ((quad_mix.f a0_0 a0_1 x128002_1 x128003_1 a0_4 a0_5 a0_6 1 2 1).bind fun bt140 => ((quad_mix.f a0_0 a0_1 x128002_1 x128003_1 a0_4 a0_5 a0_6 0 2 2).bind fun bt142 => (some (bt134.1, bt134.2, bt138.1, bt138.2, bt140.1, bt140.2, true, bt140.1, bt140.2, bt142.1, bt142.2, bt136.1, bt136.2, true, 0))))) else ((quad_mix.f a0_0 a0_1 x128002_1 x128003_1 a0_4 a0_5 a0_6 2 0 2).bind fun bt144 => (some (bt134.1, bt134.2, 0, 0, bt144.1, bt144.2, false, bt144.1, bt144.2, 0, 0, bt136.1, bt136.2, false, 0)))))) = some (r1, r2, r3, r4, r5, r6, r7, r8, r9, r10, r11, r12, r13, r14, r15) := by rw [if_pos rfl] at H; exact H
        clear H
        have H := H1
        clear H1
        replace H := Option.bind_eq_some_iff.mp H
        obtain ⟨⟨t134, t135⟩, A150, H⟩ := H
        replace H : ((quad_mix.f a0_0 a0_1 x128002_1 x128003_1 a0_4 a0_5 a0_6 0 0 4).bind fun bt136 => (if a0_6 = true then ((quad_mix.f a0_0 a0_1 x128002_1 x128003_1 a0_4 a0_5 a0_6 2 2 0).bind fun bt138 => ((quad_mix.f a0_0 a0_1 x128002_1 x128003_1 a0_4 a0_5 a0_6 1 2 1).bind fun bt140 => ((quad_mix.f a0_0 a0_1 x128002_1 x128003_1 a0_4 a0_5 a0_6 0 2 2).bind fun bt142 => (some (t134, t135, bt138.1, bt138.2, bt140.1, bt140.2, true, bt140.1, bt140.2, bt142.1, bt142.2, bt136.1, bt136.2, true, 0))))) else ((quad_mix.f a0_0 a0_1 x128002_1 x128003_1 a0_4 a0_5 a0_6 2 0 2).bind fun bt144 => (some (t134, t135, 0, 0, bt144.1, bt144.2, false, bt144.1, bt144.2, 0, 0, bt136.1, bt136.2, false, 0))))) = some (r1, r2, r3, r4, r5, r6, r7, r8, r9, r10, r11, r12, r13, r14, r15) := H
        have A15 := Aside0.mk A150
        clear A150
        replace H := Option.bind_eq_some_iff.mp H
        obtain ⟨⟨t136, t137⟩, A160, H⟩ := H
        replace H : (if a0_6 = true then ((quad_mix.f a0_0 a0_1 x128002_1 x128003_1 a0_4 a0_5 a0_6 2 2 0).bind fun bt138 => ((quad_mix.f a0_0 a0_1 x128002_1 x128003_1 a0_4 a0_5 a0_6 1 2 1).bind fun bt140 => ((quad_mix.f a0_0 a0_1 x128002_1 x128003_1 a0_4 a0_5 a0_6 0 2 2).bind fun bt142 => (some (t134, t135, bt138.1, bt138.2, bt140.1, bt140.2, true, bt140.1, bt140.2, bt142.1, bt142.2, t136, t137, true, 0))))) else ((quad_mix.f a0_0 a0_1 x128002_1 x128003_1 a0_4 a0_5 a0_6 2 0 2).bind fun bt144 => (some (t134, t135, 0, 0, bt144.1, bt144.2, false, bt144.1, bt144.2, 0, 0, t136, t137, false, 0)))) = some (r1, r2, r3, r4, r5, r6, r7, r8, r9, r10, r11, r12, r13, r14, r15) := H
        have A16 := Aside0.mk A160
        clear A160
        by_cases c17 : a0_6 = true
        · subst c17
          have H1 : ((quad_mix.f a0_0 a0_1 x128002_1 x128003_1 a0_4 a0_5 true 2 2 0).bind fun bt138 => ((quad_mix.f a0_0 a0_1 x128002_1 x128003_1 a0_4 a0_5 true 1 2 1).bind fun bt140 => ((quad_mix.f a0_0 a0_1 x128002_1 x128003_1 a0_4 a0_5 true 0 2 2).bind fun bt142 => (some (t134, t135, bt138.1, bt138.2, bt140.1, bt140.2, true, bt140.1, bt140.2, bt142.1, bt142.2, t136, t137, true, 0))))) = some (r1, r2, r3, r4, r5, r6, r7, r8, r9, r10, r11, r12, r13, r14, r15) := by rw [if_pos rfl] at H; exact H
          clear H
          have H := H1
          clear H1
          replace H := Option.bind_eq_some_iff.mp H
          obtain ⟨⟨t138, t139⟩, A180, H⟩ := H
          replace H : ((quad_mix.f a0_0 a0_1 x128002_1 x128003_1 a0_4 a0_5 true 1 2 1).bind fun bt140 => ((quad_mix.f a0_0 a0_1 x128002_1 x128003_1 a0_4 a0_5 true 0 2 2).bind fun bt142 => (some (t134, t135, t138, t139, bt140.1, bt140.2, true, bt140.1, bt140.2, bt142.1, bt142.2, t136, t137, true, 0)))) = some (r1, r2, r3, r4, r5, r6, r7, r8, r9, r10, r11, r12, r13, r14, r15) := H
          have A18 := Aside0.mk A180
          clear A180
          replace H := Option.bind_eq_some_iff.mp H
          obtain ⟨⟨t140, t141⟩, A190, H⟩ := H
          replace H : ((quad_mix.f a0_0 a0_1 x128002_1 x128003_1 a0_4 a0_5 true 0 2 2).bind fun bt142 => (some (t134, t135, t138, t139, t140, t141, true, t140, t141, bt142.1, bt142.2, t136, t137, true, 0))) = some (r1, r2, r3, r4, r5, r6, r7, r8, r9, r10, r11, r12, r13, r14, r15) := H
          have A19 := Aside0.mk A190
          clear A190
          replace H := Option.bind_eq_some_iff.mp H
          obtain ⟨⟨t142, t143⟩, A200, H⟩ := H
          replace H : (some (t134, t135, t138, t139, t140, t141, true, t140, t141, t142, t143, t136, t137, true, 0)) = some (r1, r2, r3, r4, r5, r6, r7, r8, r9, r10, r11, r12, r13, r14, r15) := H
          have A20 := Aside0.mk A200
          clear A200
          simp only [Option.some.injEq, Prod.mk.injEq] at H
          obtain ⟨rfl, rfl, rfl, rfl, rfl, rfl, rfl, rfl, rfl, rfl, rfl, rfl, rfl, rfl, rfl⟩ := H
          have hnb21 := NB127_128.out
          have hnc21 := NB128_127.out
          have hnb22 := NB127_129.out
          have hnc22 := NB129_127.out
          have hcz23_0 : wc.cell? ⟨gb127, 0, none⟩ = some (.int .i64 a0_0) := (blk_cell BK127.out 0).trans rfl
          have hcz23_1 : wc.cell? ⟨gb127, 1, none⟩ = some (.int .i64 a0_1) := (blk_cell BK127.out 1).trans rfl
          have hcz23_2 : wc.cell? ⟨gb127, 2, none⟩ = some (.int .i64 x128002_1) := (blk_cell BK127.out 2).trans rfl
          have hcz23_3 : wc.cell? ⟨gb127, 3, none⟩ = some (.int .i64 x128003_1) := (blk_cell BK127.out 3).trans rfl
          have hcz23_4 : wc.cell? ⟨gb127, 4, none⟩ = some (.int .i64 a0_4) := (blk_cell BK127.out 4).trans rfl
          have hcz23_5 : wc.cell? ⟨gb127, 5, none⟩ = some (.int .i64 a0_5) := (blk_cell BK127.out 5).trans rfl
          have hcz23_6 : wc.cell? ⟨gb127, 6, none⟩ = some (.bool true) := (blk_cell BK127.out 6).trans rfl
          have hfz23_0 := blk_frozen BK127.out 0
          have hfz23_1 := blk_frozen BK127.out 1
          have hfz23_2 := blk_frozen BK127.out 2
          have hfz23_3 := blk_frozen BK127.out 3
          have hfz23_4 := blk_frozen BK127.out 4
          have hfz23_5 := blk_frozen BK127.out 5
          have hfz23_6 := blk_frozen BK127.out 6
          try go_wp2_with (first | ((with_reducible refine gate_dst (N := 16) rfl ?_); refine Kd.R_lit k33 _ 33 ?hg (N := 16) ?hd (xs := ([(⟨a0_0, a0_1⟩ : S33), (⟨a0_4, a0_5⟩ : S33), (⟨x128002_1, x128003_1⟩ : S33)] : List (S33))) (inner := [.int .i64 a0_0, .int .i64 a0_1, .int .i64 a0_4, .int .i64 a0_5, .int .i64 x128002_1, .int .i64 x128003_1]) (ok := fun _ => True) (okp := fun _ => True) ?hr ?hp (fun _ hk => hk) trivial (Below.refl _ _) (Nat.le_refl _) (by simp) ?_; (case hd => rfl); (case hg => rfl); (case hr => first | (go_simp; done) | (go_simp; rfl)); (case hp => exact (Reps.c2 (show Kd.M k33 _ _ _ (⟨a0_0, a0_1⟩ : S33) [.int .i64 a0_0, .int .i64 a0_1] from (k33_mkM _ _ _ (⟨a0_0, a0_1⟩ : S33) )) (Reps.c2 (show Kd.M k33 _ _ _ (⟨a0_4, a0_5⟩ : S33) [.int .i64 a0_4, .int .i64 a0_5] from (k33_mkM _ _ _ (⟨a0_4, a0_5⟩ : S33) )) (Reps.c2 (show Kd.M k33 _ _ _ (⟨x128002_1, x128003_1⟩ : S33) [.int .i64 x128002_1, .int .i64 x128003_1] from (k33_mkM _ _ _ (⟨x128002_1, x128003_1⟩ : S33) )) (Reps.none _ _))))); intro v131 w24 ho25 hb hg_ hnew_; clear hg_ hnew_; (first | rw [← Ny130.out] at ho25 | (simp only [Int.reduceToNat] at ho25; rw [← Ny130.out] at ho25)); have n0_ := Aside0.mk (Kd.R_lower ho25 (below_size (by repeat (first | (with_reducible first | exact HB.out | apply below_alloc | apply pw_below_drewN | apply below_drew1 | refine below_set ?_ GE127.out | refine below_set ?_ GE128.out | refine below_set ?_ GE129.out) | exact HB.out)))); have n1_ := Aside0.mk (blk_below (g := gb127) (o := .cells #[.int .i64 a0_0, .int .i64 a0_1, .int .i64 x128002_1, .int .i64 x128003_1, .int .i64 a0_4, .int .i64 a0_5, .bool true] 37 (0, 0)) (by (with_reducible repeat (first | refine blk_drewN ?_ _ | refine blk_drew ?_ | refine blk_alloc ?_ _)); exact BK127.out) hb); have n2_ := Aside0.mk (blk_below (g := gb128) (o := .cells #[.int .i64 0, .int .i64 0, .int .i64 0, .int .i64 0, .int .i64 0, .int .i64 0, .bool false] 37 (0, 0)) (by (with_reducible repeat (first | refine blk_drewN ?_ _ | refine blk_drew ?_ | refine blk_alloc ?_ _)); exact BK128.out) hb); have n3_ := Aside0.mk (blk_below (g := gb129) (o := .cells #[.int .i64 0, .int .i64 0, .int .i64 0, .int .i64 0, .int .i64 0, .int .i64 0, .bool false] 37 (0, 0)) (by (with_reducible repeat (first | refine blk_drewN ?_ _ | refine blk_drew ?_ | refine blk_alloc ?_ _)); exact BK129.out) hb); have n4_ := Aside0.mk (below_step (by repeat (first | (with_reducible first | exact HB.out | apply below_alloc | apply pw_below_drewN | apply below_drew1 | refine below_set ?_ GE127.out | refine below_set ?_ GE128.out | refine below_set ?_ GE129.out) | exact HB.out)) hb); clear BK127; clear BK128; clear BK129; clear HB; have HO132 := n0_; have BK127 := n1_; have BK128 := n2_; have BK129 := n3_; have HB := n4_; clear n0_ n1_ n2_ n3_ n4_; clear hb ho25; obtain ⟨Ao26, co26, eo26⟩ := Kd.R_slice HO132.out; subst eo26) | ((with_reducible refine gate_callee (f := 58) rfl ?_); refine goesL_ (some 17) rfl rfl Try.func58 (by kernel_rfl) rfl #[.slice Ao26 y130.length co26] rfl (by (try simp only [List.map_toArray, List.map_cons, List.map_nil]); first | done | rfl | (simp only [List.length_drop, List.length_take]; rfl)) ?_; (with_reducible refine (quad_near.calls kj1 _ _ y130 true _ ?side1 ?side2 A13.out).mono ?_); (case side1 => repeat (first | exact (Kd.R_reads' HO132.out).2.2 | (with_reducible refine Kd.C_alloc ?_ _) | (with_reducible refine Kd.C_drewN ?_ _) | (with_reducible refine Kd.C_drew ?_))); (case side2 => exact (Kd.R_reads' HO132.out).2.1); rintro e w27 ⟨rfl, hb⟩; refine ⟨_, rfl, ?_⟩; have n0_ := Aside0.mk (Kd.R_below (by (with_reducible repeat (first | apply Kd.R_alloc | apply Kd.R_drewN | apply Kd.R_drew)); exact HO132.out) hb); have n1_ := Aside0.mk (blk_below (g := gb127) (o := .cells #[.int .i64 a0_0, .int .i64 a0_1, .int .i64 x128002_1, .int .i64 x128003_1, .int .i64 a0_4, .int .i64 a0_5, .bool true] 37 (0, 0)) (by (with_reducible repeat (first | refine blk_drewN ?_ _ | refine blk_drew ?_ | refine blk_alloc ?_ _)); exact BK127.out) hb); have n2_ := Aside0.mk (blk_below (g := gb128) (o := .cells #[.int .i64 0, .int .i64 0, .int .i64 0, .int .i64 0, .int .i64 0, .int .i64 0, .bool false] 37 (0, 0)) (by (with_reducible repeat (first | refine blk_drewN ?_ _ | refine blk_drew ?_ | refine blk_alloc ?_ _)); exact BK128.out) hb); have n3_ := Aside0.mk (blk_below (g := gb129) (o := .cells #[.int .i64 0, .int .i64 0, .int .i64 0, .int .i64 0, .int .i64 0, .int .i64 0, .bool false] 37 (0, 0)) (by (with_reducible repeat (first | refine blk_drewN ?_ _ | refine blk_drew ?_ | refine blk_alloc ?_ _)); exact BK129.out) hb); have n4_ := Aside0.mk (below_step (by repeat (first | (with_reducible first | exact HB.out | apply below_alloc | apply pw_below_drewN | apply below_drew1 | refine below_set ?_ GE127.out | refine below_set ?_ GE128.out | refine below_set ?_ GE129.out) | exact HB.out)) hb); clear HO132; clear BK127; clear BK128; clear BK129; clear HB; have HO132 := n0_; have BK127 := n1_; have BK128 := n2_; have BK129 := n3_; have HB := n4_; clear n0_ n1_ n2_ n3_ n4_; (try clear hb); (try clear hb2); (try clear hk); (try clear hi)))
          have n0_ := Aside0.mk (Kd.R_drew HO132.out)
          have n1_ := Aside0.mk (blk_drew BK127.out)
          have n2_ := Aside0.mk (blk_drew BK128.out)
          have n3_ := Aside0.mk (blk_drew BK129.out)
          have n4_ := Aside0.mk (below_drew1 HB.out)
          clear HO132
          clear BK127
          clear BK128
          clear BK129
          clear HB
          have HO132 := n0_
          have BK127 := n1_
          have BK128 := n2_
          have BK129 := n3_
          have HB := n4_
          clear n0_ n1_ n2_ n3_ n4_
          refine start_ (n := 8) (S := fun w' => w'.cell? ⟨gb127, 0, none⟩ = some (.int .i64 a0_0) ∧ w'.cell? ⟨gb127, 1, none⟩ = some (.int .i64 a0_1) ∧ w'.cell? ⟨gb127, 2, none⟩ = some (.int .i64 x128002_1) ∧ w'.cell? ⟨gb127, 3, none⟩ = some (.int .i64 x128003_1) ∧ w'.cell? ⟨gb127, 4, none⟩ = some (.int .i64 a0_4) ∧ w'.cell? ⟨gb127, 5, none⟩ = some (.int .i64 a0_5) ∧ w'.cell? ⟨gb127, 6, none⟩ = some (.bool true)) (ds := []) #[false, false, false, false, false, false, false, false] (by kernel_rfl) rfl rfl ⟨(blk_cell BK127.out 0).trans rfl, (blk_cell BK127.out 1).trans rfl, (blk_cell BK127.out 2).trans rfl, (blk_cell BK127.out 3).trans rfl, (blk_cell BK127.out 4).trans rfl, (blk_cell BK127.out 5).trans rfl, (blk_cell BK127.out 6).trans rfl⟩ (fun hHeld => ?_); refine with_tabW quad_Split.tab5 quad_Split.bits5 (fun HT_ HW_ => ?_)
          generalize w27.drew = w28 at HO132 BK127 BK128 BK129 HB hHeld ⊢
          refine take_ (i := 0) (N := some 21) (v := ?_) (a' := ?_) #[true, false, false, false, false, false, false, false] rfl rfl (take_ofW HT_.out HW_.out (by kernel_rfl)) (fun _ _ _ h => h) (Or.inl ⟨by rfl, ?_⟩) hHeld ?_ ?_
          rotate_left
          · rintro w' ⟨s0, s1, s2, s3, s4, s5, s6⟩
            go_simp
            with_reducible rfl
          rotate_left
          · simp only [Act.put, List.setIfInBounds_toArray, List.set_cons_zero, List.set_cons_succ, i64_w, i32_w]
            rfl
          refine take_ (i := 2) (N := some 23) (v := ?_) (a' := ?_) #[true, false, true, false, false, false, false, false] rfl rfl (take_ofW HT_.out HW_.out (by kernel_rfl)) (fun _ _ _ h => h) (Or.inl ⟨by rfl, ?_⟩) hHeld ?_ ?_
          rotate_left
          · rintro w' ⟨s0, s1, s2, s3, s4, s5, s6⟩
            go_simp
            with_reducible rfl
          rotate_left
          · simp only [Act.put, List.setIfInBounds_toArray, List.set_cons_zero, List.set_cons_succ, i64_w, i32_w]
            rfl
          refine one_ (i := 1) (N := some 22) #[true, true, true, false, false, false, false, false] rfl rfl (one_of HT_.out (by kernel_rfl)) (by decide) (fun K hK => ?_)
          refine goes_ Try.func53 (by kernel_rfl) rfl #[.agg #[.int .i64 a0_0, .int .i64 a0_1, .int .i64 x128002_1, .int .i64 x128003_1, .int .i64 a0_4, .int .i64 a0_5, .bool true], .int .i64 4, .int .i64 0, .int .i64 0] (by rfl) rfl rfl (by (try simp only [List.map_toArray, List.map_cons, List.map_nil]); first | done | rfl | (simp only [List.length_drop, List.length_take]; rfl)) ?_
          with_reducible refine (quad_mix.calls a0_0 a0_1 x128002_1 x128003_1 a0_4 a0_5 true 4 0 0 t134 t135 _ A15.out).mono ?_
          rintro e w29 ⟨rfl, hb⟩
          refine ⟨_, rfl, ?_⟩
          have n0_ := Aside0.mk (Kd.R_below (by (with_reducible repeat (first | apply Kd.R_alloc | apply Kd.R_drewN | apply Kd.R_drew)); exact HO132.out) hb)
          have n1_ := Aside0.mk (blk_below (g := gb127) (o := .cells #[.int .i64 a0_0, .int .i64 a0_1, .int .i64 x128002_1, .int .i64 x128003_1, .int .i64 a0_4, .int .i64 a0_5, .bool true] 37 (0, 0)) (by (with_reducible repeat (first | refine blk_drewN ?_ _ | refine blk_drew ?_ | refine blk_alloc ?_ _)); exact BK127.out) hb)
          have n2_ := Aside0.mk (blk_below (g := gb128) (o := .cells #[.int .i64 0, .int .i64 0, .int .i64 0, .int .i64 0, .int .i64 0, .int .i64 0, .bool false] 37 (0, 0)) (by (with_reducible repeat (first | refine blk_drewN ?_ _ | refine blk_drew ?_ | refine blk_alloc ?_ _)); exact BK128.out) hb)
          have n3_ := Aside0.mk (blk_below (g := gb129) (o := .cells #[.int .i64 0, .int .i64 0, .int .i64 0, .int .i64 0, .int .i64 0, .int .i64 0, .bool false] 37 (0, 0)) (by (with_reducible repeat (first | refine blk_drewN ?_ _ | refine blk_drew ?_ | refine blk_alloc ?_ _)); exact BK129.out) hb)
          have n4_ := Aside0.mk (below_step (by repeat (first | (with_reducible first | exact HB.out | apply below_alloc | apply pw_below_drewN | apply below_drew1 | refine below_set ?_ GE127.out | refine below_set ?_ GE128.out | refine below_set ?_ GE129.out) | exact HB.out)) hb)
          clear HO132
          clear BK127
          clear BK128
          clear BK129
          clear HB
          have HO132 := n0_
          have BK127 := n1_
          have BK128 := n2_
          have BK129 := n3_
          have HB := n4_
          clear n0_ n1_ n2_ n3_ n4_
          (try clear hb)
          (try clear hb2)
          (try clear hk)
          (try clear hi)
          refine hK.out _ _ ⟨(blk_cell BK127.out 0).trans rfl, (blk_cell BK127.out 1).trans rfl, (blk_cell BK127.out 2).trans rfl, (blk_cell BK127.out 3).trans rfl, (blk_cell BK127.out 4).trans rfl, (blk_cell BK127.out 5).trans rfl, (blk_cell BK127.out 6).trans rfl⟩ (fun hHeld => ?_)
          clear hK K
          refine norm_ (a' := ?_) ?_ ?_
          rotate_left
          · show Act.put _ (some 22) _ = _
            simp only [Act.put, List.setIfInBounds_toArray, List.set_cons_zero, List.set_cons_succ, i64_w, i32_w]
            rfl
          refine pure_ (i := 4) (N := some 25) (v := ?_) (a' := ?_) #[true, true, true, false, true, false, false, false] rfl rfl (any_of HT_.out (by kernel_rfl)) (fun _ _ _ h => h) (Or.inl ⟨by rfl, ?_⟩) ?_ ?_
          rotate_left
          · intro w'
            go_simp
            with_reducible rfl
          rotate_left
          · simp only [Act.put, List.setIfInBounds_toArray, List.set_cons_zero, List.set_cons_succ, i64_w, i32_w]
            rfl
          refine one_ (i := 3) (N := some 24) #[true, true, true, true, true, false, false, false] rfl rfl (one_of HT_.out (by kernel_rfl)) (by decide) (fun K hK => ?_)
          refine goes_ Try.func53 (by kernel_rfl) rfl #[.agg #[.int .i64 a0_0, .int .i64 a0_1, .int .i64 x128002_1, .int .i64 x128003_1, .int .i64 a0_4, .int .i64 a0_5, .bool true], .int .i64 0, .int .i64 0, .int .i64 4] (by rfl) rfl rfl (by (try simp only [List.map_toArray, List.map_cons, List.map_nil]); first | done | rfl | (simp only [List.length_drop, List.length_take]; rfl)) ?_
          with_reducible refine (quad_mix.calls a0_0 a0_1 x128002_1 x128003_1 a0_4 a0_5 true 0 0 4 t136 t137 _ A16.out).mono ?_
          rintro e w30 ⟨rfl, hb⟩
          refine ⟨_, rfl, ?_⟩
          have n0_ := Aside0.mk (Kd.R_below (by (with_reducible repeat (first | apply Kd.R_alloc | apply Kd.R_drewN | apply Kd.R_drew)); exact HO132.out) hb)
          have n1_ := Aside0.mk (blk_below (g := gb127) (o := .cells #[.int .i64 a0_0, .int .i64 a0_1, .int .i64 x128002_1, .int .i64 x128003_1, .int .i64 a0_4, .int .i64 a0_5, .bool true] 37 (0, 0)) (by (with_reducible repeat (first | refine blk_drewN ?_ _ | refine blk_drew ?_ | refine blk_alloc ?_ _)); exact BK127.out) hb)
          have n2_ := Aside0.mk (blk_below (g := gb128) (o := .cells #[.int .i64 0, .int .i64 0, .int .i64 0, .int .i64 0, .int .i64 0, .int .i64 0, .bool false] 37 (0, 0)) (by (with_reducible repeat (first | refine blk_drewN ?_ _ | refine blk_drew ?_ | refine blk_alloc ?_ _)); exact BK128.out) hb)
          have n3_ := Aside0.mk (blk_below (g := gb129) (o := .cells #[.int .i64 0, .int .i64 0, .int .i64 0, .int .i64 0, .int .i64 0, .int .i64 0, .bool false] 37 (0, 0)) (by (with_reducible repeat (first | refine blk_drewN ?_ _ | refine blk_drew ?_ | refine blk_alloc ?_ _)); exact BK129.out) hb)
          have n4_ := Aside0.mk (below_step (by repeat (first | (with_reducible first | exact HB.out | apply below_alloc | apply pw_below_drewN | apply below_drew1 | refine below_set ?_ GE127.out | refine below_set ?_ GE128.out | refine below_set ?_ GE129.out) | exact HB.out)) hb)
          clear HO132
          clear BK127
          clear BK128
          clear BK129
          clear HB
          have HO132 := n0_
          have BK127 := n1_
          have BK128 := n2_
          have BK129 := n3_
          have HB := n4_
          clear n0_ n1_ n2_ n3_ n4_
          (try clear hb)
          (try clear hb2)
          (try clear hk)
          (try clear hi)
          refine hK.out _ _ ⟨(blk_cell BK127.out 0).trans rfl, (blk_cell BK127.out 1).trans rfl, (blk_cell BK127.out 2).trans rfl, (blk_cell BK127.out 3).trans rfl, (blk_cell BK127.out 4).trans rfl, (blk_cell BK127.out 5).trans rfl, (blk_cell BK127.out 6).trans rfl⟩ (fun hHeld => ?_)
          clear hK K
          refine norm_ (a' := ?_) ?_ ?_
          rotate_left
          · show Act.put _ (some 24) _ = _
            simp only [Act.put, List.setIfInBounds_toArray, List.set_cons_zero, List.set_cons_succ, i64_w, i32_w]
            rfl
          refine one_ (i := 5) (N := none) #[true, true, true, true, true, true, false, false] rfl rfl (one_of HT_.out (by kernel_rfl)) (by decide) (fun K hK => ?_)
          have hs31 : w30.cell? ⟨gb128, 0, none⟩ = some (.int .i64 0) := (blk_cell BK128.out 0).trans rfl
          have hfs31 := blk_frozen BK128.out 0
          have hns31_0 := NB127_128.out
          have hns31_2 := NB129_128.out
          have hms31_0 := NB128_127.out
          have hms31_2 := NB128_129.out
          have hs32 : w30.cell? ⟨gb128, 1, none⟩ = some (.int .i64 0) := (blk_cell BK128.out 1).trans rfl
          have hfs32 := blk_frozen BK128.out 1
          have hns32_0 := NB127_128.out
          have hns32_2 := NB129_128.out
          have hms32_0 := NB128_127.out
          have hms32_2 := NB128_129.out
          refine skip_ (w1 := ?_) ?_ ?_ ?_ ?_
          rotate_left
          · rfl
          · rfl
          · go_simp
            rfl
          clear hs31 hfs31 hns31_0 hns31_2 hms31_0 hms31_2 hs32 hfs32 hns32_0 hns32_2 hms32_0 hms32_2
          refine hK.out _ _ ⟨((cell_far (p := ⟨gb128, _, none⟩) NB127_128.out _).trans (((cell_far (p := ⟨gb128, _, none⟩) NB127_128.out _).trans (hHeld.1)))), ((cell_far (p := ⟨gb128, _, none⟩) NB127_128.out _).trans (((cell_far (p := ⟨gb128, _, none⟩) NB127_128.out _).trans (hHeld.2.1)))), ((cell_far (p := ⟨gb128, _, none⟩) NB127_128.out _).trans (((cell_far (p := ⟨gb128, _, none⟩) NB127_128.out _).trans (hHeld.2.2.1)))), ((cell_far (p := ⟨gb128, _, none⟩) NB127_128.out _).trans (((cell_far (p := ⟨gb128, _, none⟩) NB127_128.out _).trans (hHeld.2.2.2.1)))), ((cell_far (p := ⟨gb128, _, none⟩) NB127_128.out _).trans (((cell_far (p := ⟨gb128, _, none⟩) NB127_128.out _).trans (hHeld.2.2.2.2.1)))), ((cell_far (p := ⟨gb128, _, none⟩) NB127_128.out _).trans (((cell_far (p := ⟨gb128, _, none⟩) NB127_128.out _).trans (hHeld.2.2.2.2.2.1)))), ((cell_far (p := ⟨gb128, _, none⟩) NB127_128.out _).trans (((cell_far (p := ⟨gb128, _, none⟩) NB127_128.out _).trans (hHeld.2.2.2.2.2.2))))⟩ (fun hHeld => ?_)
          clear hK K
          refine pure_ (i := 6) (N := some 26) (v := ?_) (a' := ?_) #[true, true, true, true, true, true, true, false] rfl rfl (any_of HT_.out (by kernel_rfl)) (fun _ _ _ h => h) (Or.inl ⟨by rfl, ?_⟩) ?_ ?_
          rotate_left
          · intro w'
            go_simp
            with_reducible rfl
          rotate_left
          · simp only [Act.put, List.setIfInBounds_toArray, List.set_cons_zero, List.set_cons_succ, i64_w, i32_w]
            rfl
          refine one_ (i := 7) (N := none) #[true, true, true, true, true, true, true, true] rfl rfl (one_of HT_.out (by kernel_rfl)) (by decide) (fun K hK => ?_)
          have hs33 : w30.cell? ⟨gb129, 4, none⟩ = some (.int .i64 0) := (blk_cell BK129.out 4).trans rfl
          have hfs33 := blk_frozen BK129.out 4
          have hns33_0 := NB127_129.out
          have hns33_1 := NB128_129.out
          have hms33_0 := NB129_127.out
          have hms33_1 := NB129_128.out
          have hs34 : w30.cell? ⟨gb129, 5, none⟩ = some (.int .i64 0) := (blk_cell BK129.out 5).trans rfl
          have hfs34 := blk_frozen BK129.out 5
          have hns34_0 := NB127_129.out
          have hns34_1 := NB128_129.out
          have hms34_0 := NB129_127.out
          have hms34_1 := NB129_128.out
          refine skip_ (w1 := ?_) ?_ ?_ ?_ ?_
          rotate_left
          · rfl
          · rfl
          · go_simp
            rfl
          clear hs33 hfs33 hns33_0 hns33_1 hms33_0 hms33_1 hs34 hfs34 hns34_0 hns34_1 hms34_0 hms34_1
          refine hK.out _ _ ⟨((cell_far (p := ⟨gb129, _, none⟩) NB127_129.out _).trans (((cell_far (p := ⟨gb129, _, none⟩) NB127_129.out _).trans (hHeld.1)))), ((cell_far (p := ⟨gb129, _, none⟩) NB127_129.out _).trans (((cell_far (p := ⟨gb129, _, none⟩) NB127_129.out _).trans (hHeld.2.1)))), ((cell_far (p := ⟨gb129, _, none⟩) NB127_129.out _).trans (((cell_far (p := ⟨gb129, _, none⟩) NB127_129.out _).trans (hHeld.2.2.1)))), ((cell_far (p := ⟨gb129, _, none⟩) NB127_129.out _).trans (((cell_far (p := ⟨gb129, _, none⟩) NB127_129.out _).trans (hHeld.2.2.2.1)))), ((cell_far (p := ⟨gb129, _, none⟩) NB127_129.out _).trans (((cell_far (p := ⟨gb129, _, none⟩) NB127_129.out _).trans (hHeld.2.2.2.2.1)))), ((cell_far (p := ⟨gb129, _, none⟩) NB127_129.out _).trans (((cell_far (p := ⟨gb129, _, none⟩) NB127_129.out _).trans (hHeld.2.2.2.2.2.1)))), ((cell_far (p := ⟨gb129, _, none⟩) NB127_129.out _).trans (((cell_far (p := ⟨gb129, _, none⟩) NB127_129.out _).trans (hHeld.2.2.2.2.2.2))))⟩ (fun hHeld => ?_)
          clear hK K
          refine done_ (done_of HT_.out (by kernel_rfl)) ?_
          have hcz35_0 : w30.cell? ⟨gb127, 0, none⟩ = some (.int .i64 a0_0) := (blk_cell BK127.out 0).trans rfl
          have hcz35_1 : w30.cell? ⟨gb127, 1, none⟩ = some (.int .i64 a0_1) := (blk_cell BK127.out 1).trans rfl
          have hcz35_2 : w30.cell? ⟨gb127, 2, none⟩ = some (.int .i64 x128002_1) := (blk_cell BK127.out 2).trans rfl
          have hcz35_3 : w30.cell? ⟨gb127, 3, none⟩ = some (.int .i64 x128003_1) := (blk_cell BK127.out 3).trans rfl
          have hcz35_4 : w30.cell? ⟨gb127, 4, none⟩ = some (.int .i64 a0_4) := (blk_cell BK127.out 4).trans rfl
          have hcz35_5 : w30.cell? ⟨gb127, 5, none⟩ = some (.int .i64 a0_5) := (blk_cell BK127.out 5).trans rfl
          have hcz35_6 : w30.cell? ⟨gb127, 6, none⟩ = some (.bool true) := (blk_cell BK127.out 6).trans rfl
          have hfz35_0 := blk_frozen BK127.out 0
          have hfz35_1 := blk_frozen BK127.out 1
          have hfz35_2 := blk_frozen BK127.out 2
          have hfz35_3 := blk_frozen BK127.out 3
          have hfz35_4 := blk_frozen BK127.out 4
          have hfz35_5 := blk_frozen BK127.out 5
          have hfz35_6 := blk_frozen BK127.out 6
          try go_wp2
          have n0_ : Aside0 (Kd.R k33 33 ((((w30.setCell ⟨gb128, 0, none⟩ (.int .i64 t134)).setCell ⟨gb128, 1, none⟩ (.int .i64 t135)).setCell ⟨gb129, 4, none⟩ (.int .i64 t136)).setCell ⟨gb129, 5, none⟩ (.int .i64 t137)) w.heap.size (fun _ => True) (.slice Ao26 y130.length co26) y130) := ⟨by (with_reducible repeat (first | apply Kd.R_alloc | apply Kd.R_drewN | apply Kd.R_drew)); exact Kd.R_mono (Kd.R_far (p := ⟨gb129, 5, none⟩) (Kd.R_far (p := ⟨gb129, 4, none⟩) (Kd.R_far (p := ⟨gb128, 1, none⟩) (Kd.R_far (p := ⟨gb128, 0, none⟩) (Kd.R_types (Kd.R_types HO132.out BK128.out (by decide)) BK129.out (by decide)) (fun _ hk => hk.1.2) (.int .i64 t134)) (fun _ hk => hk.1.2) (.int .i64 t135)) (fun _ hk => hk.2) (.int .i64 t136)) (fun _ hk => hk.2) (.int .i64 t137)) (fun _ hk => trivial)⟩
          have n1_ : Aside0 (((((w30.setCell ⟨gb128, 0, none⟩ (.int .i64 t134)).setCell ⟨gb128, 1, none⟩ (.int .i64 t135)).setCell ⟨gb129, 4, none⟩ (.int .i64 t136)).setCell ⟨gb129, 5, none⟩ (.int .i64 t137)).heap[gb127]? = some (.cells #[.int .i64 a0_0, .int .i64 a0_1, .int .i64 x128002_1, .int .i64 x128003_1, .int .i64 a0_4, .int .i64 a0_5, .bool true] 37 (0, 0))) := ⟨by (with_reducible repeat (first | refine blk_drewN ?_ _ | refine blk_drew ?_ | refine blk_alloc ?_ _)); refine blk_far ?_ NB127_129.out _; (with_reducible repeat (first | refine blk_drewN ?_ _ | refine blk_drew ?_ | refine blk_alloc ?_ _)); refine blk_far ?_ NB127_129.out _; (with_reducible repeat (first | refine blk_drewN ?_ _ | refine blk_drew ?_ | refine blk_alloc ?_ _)); refine blk_far ?_ NB127_128.out _; (with_reducible repeat (first | refine blk_drewN ?_ _ | refine blk_drew ?_ | refine blk_alloc ?_ _)); refine blk_far ?_ NB127_128.out _; (with_reducible repeat (first | refine blk_drewN ?_ _ | refine blk_drew ?_ | refine blk_alloc ?_ _)); exact BK127.out⟩
          have n2_ : Aside0 (((((w30.setCell ⟨gb128, 0, none⟩ (.int .i64 t134)).setCell ⟨gb128, 1, none⟩ (.int .i64 t135)).setCell ⟨gb129, 4, none⟩ (.int .i64 t136)).setCell ⟨gb129, 5, none⟩ (.int .i64 t137)).heap[gb128]? = some (.cells #[.int .i64 t134, .int .i64 t135, .int .i64 0, .int .i64 0, .int .i64 0, .int .i64 0, .bool false] 37 (0, 0))) := ⟨by (with_reducible repeat (first | refine blk_drewN ?_ _ | refine blk_drew ?_ | refine blk_alloc ?_ _)); refine blk_far ?_ NB128_129.out _; (with_reducible repeat (first | refine blk_drewN ?_ _ | refine blk_drew ?_ | refine blk_alloc ?_ _)); refine blk_far ?_ NB128_129.out _; (with_reducible repeat (first | refine blk_drewN ?_ _ | refine blk_drew ?_ | refine blk_alloc ?_ _)); refine blk_put (cs := #[.int .i64 t134, .int .i64 0, .int .i64 0, .int .i64 0, .int .i64 0, .int .i64 0, .bool false]) ?_ 1 _ rfl; (with_reducible repeat (first | refine blk_drewN ?_ _ | refine blk_drew ?_ | refine blk_alloc ?_ _)); refine blk_put (cs := #[.int .i64 0, .int .i64 0, .int .i64 0, .int .i64 0, .int .i64 0, .int .i64 0, .bool false]) ?_ 0 _ rfl; (with_reducible repeat (first | refine blk_drewN ?_ _ | refine blk_drew ?_ | refine blk_alloc ?_ _)); exact BK128.out⟩
          have n3_ : Aside0 (((((w30.setCell ⟨gb128, 0, none⟩ (.int .i64 t134)).setCell ⟨gb128, 1, none⟩ (.int .i64 t135)).setCell ⟨gb129, 4, none⟩ (.int .i64 t136)).setCell ⟨gb129, 5, none⟩ (.int .i64 t137)).heap[gb129]? = some (.cells #[.int .i64 0, .int .i64 0, .int .i64 0, .int .i64 0, .int .i64 t136, .int .i64 t137, .bool false] 37 (0, 0))) := ⟨by (with_reducible repeat (first | refine blk_drewN ?_ _ | refine blk_drew ?_ | refine blk_alloc ?_ _)); refine blk_put (cs := #[.int .i64 0, .int .i64 0, .int .i64 0, .int .i64 0, .int .i64 t136, .int .i64 0, .bool false]) ?_ 5 _ rfl; (with_reducible repeat (first | refine blk_drewN ?_ _ | refine blk_drew ?_ | refine blk_alloc ?_ _)); refine blk_put (cs := #[.int .i64 0, .int .i64 0, .int .i64 0, .int .i64 0, .int .i64 0, .int .i64 0, .bool false]) ?_ 4 _ rfl; (with_reducible repeat (first | refine blk_drewN ?_ _ | refine blk_drew ?_ | refine blk_alloc ?_ _)); refine blk_far ?_ NB129_128.out _; (with_reducible repeat (first | refine blk_drewN ?_ _ | refine blk_drew ?_ | refine blk_alloc ?_ _)); refine blk_far ?_ NB129_128.out _; (with_reducible repeat (first | refine blk_drewN ?_ _ | refine blk_drew ?_ | refine blk_alloc ?_ _)); exact BK129.out⟩
          have n4_ : Aside0 (Below w.heap.size w ((((w30.setCell ⟨gb128, 0, none⟩ (.int .i64 t134)).setCell ⟨gb128, 1, none⟩ (.int .i64 t135)).setCell ⟨gb129, 4, none⟩ (.int .i64 t136)).setCell ⟨gb129, 5, none⟩ (.int .i64 t137))) := ⟨by repeat (first | (with_reducible first | exact HB.out | apply below_alloc | apply pw_below_drewN | apply below_drew1 | refine below_set ?_ GE127.out | refine below_set ?_ GE128.out | refine below_set ?_ GE129.out) | exact HB.out)⟩
          (try clear HO132)
          (try clear BK127)
          (try clear BK128)
          (try clear BK129)
          (try clear HB)
          generalize ((((w30.setCell ⟨gb128, 0, none⟩ (.int .i64 t134)).setCell ⟨gb128, 1, none⟩ (.int .i64 t135)).setCell ⟨gb129, 4, none⟩ (.int .i64 t136)).setCell ⟨gb129, 5, none⟩ (.int .i64 t137)) = w36 at n0_ n1_ n2_ n3_ n4_ ⊢
          have HO132 := n0_
          have BK127 := n1_
          have BK128 := n2_
          have BK129 := n3_
          have HB := n4_
          clear n0_ n1_ n2_ n3_ n4_
          have n0_ := Aside0.mk (Kd.R_drew HO132.out)
          have n1_ := Aside0.mk (blk_drew BK127.out)
          have n2_ := Aside0.mk (blk_drew BK128.out)
          have n3_ := Aside0.mk (blk_drew BK129.out)
          have n4_ := Aside0.mk (below_drew1 HB.out)
          clear HO132
          clear BK127
          clear BK128
          clear BK129
          clear HB
          have HO132 := n0_
          have BK127 := n1_
          have BK128 := n2_
          have BK129 := n3_
          have HB := n4_
          clear n0_ n1_ n2_ n3_ n4_
          refine start_ (n := 12) (S := fun w' => w'.cell? ⟨gb127, 0, none⟩ = some (.int .i64 a0_0) ∧ w'.cell? ⟨gb127, 1, none⟩ = some (.int .i64 a0_1) ∧ w'.cell? ⟨gb127, 2, none⟩ = some (.int .i64 x128002_1) ∧ w'.cell? ⟨gb127, 3, none⟩ = some (.int .i64 x128003_1) ∧ w'.cell? ⟨gb127, 4, none⟩ = some (.int .i64 a0_4) ∧ w'.cell? ⟨gb127, 5, none⟩ = some (.int .i64 a0_5) ∧ w'.cell? ⟨gb127, 6, none⟩ = some (.bool true)) (ds := []) #[false, false, false, false, false, false, false, false, false, false, false, false] (by kernel_rfl) rfl rfl ⟨(blk_cell BK127.out 0).trans rfl, (blk_cell BK127.out 1).trans rfl, (blk_cell BK127.out 2).trans rfl, (blk_cell BK127.out 3).trans rfl, (blk_cell BK127.out 4).trans rfl, (blk_cell BK127.out 5).trans rfl, (blk_cell BK127.out 6).trans rfl⟩ (fun hHeld => ?_); refine with_tabW quad_Split.tab10 quad_Split.bits10 (fun HT_ HW_ => ?_)
          generalize w36.drew = w37 at HO132 BK127 BK128 BK129 HB hHeld ⊢
          refine take_ (i := 0) (N := some 38) (v := ?_) (a' := ?_) #[true, false, false, false, false, false, false, false, false, false, false, false] rfl rfl (take_ofW HT_.out HW_.out (by kernel_rfl)) (fun _ _ _ h => h) (Or.inl ⟨by rfl, ?_⟩) hHeld ?_ ?_
          rotate_left
          · rintro w' ⟨s0, s1, s2, s3, s4, s5, s6⟩
            go_simp
            with_reducible rfl
          rotate_left
          · simp only [Act.put, List.setIfInBounds_toArray, List.set_cons_zero, List.set_cons_succ, i64_w, i32_w]
            rfl
          refine take_ (i := 2) (N := some 40) (v := ?_) (a' := ?_) #[true, false, true, false, false, false, false, false, false, false, false, false] rfl rfl (take_ofW HT_.out HW_.out (by kernel_rfl)) (fun _ _ _ h => h) (Or.inl ⟨by rfl, ?_⟩) hHeld ?_ ?_
          rotate_left
          · rintro w' ⟨s0, s1, s2, s3, s4, s5, s6⟩
            go_simp
            with_reducible rfl
          rotate_left
          · simp only [Act.put, List.setIfInBounds_toArray, List.set_cons_zero, List.set_cons_succ, i64_w, i32_w]
            rfl
          refine take_ (i := 4) (N := some 42) (v := ?_) (a' := ?_) #[true, false, true, false, true, false, false, false, false, false, false, false] rfl rfl (take_ofW HT_.out HW_.out (by kernel_rfl)) (fun _ _ _ h => h) (Or.inl ⟨by rfl, ?_⟩) hHeld ?_ ?_
          rotate_left
          · rintro w' ⟨s0, s1, s2, s3, s4, s5, s6⟩
            go_simp
            with_reducible rfl
          rotate_left
          · simp only [Act.put, List.setIfInBounds_toArray, List.set_cons_zero, List.set_cons_succ, i64_w, i32_w]
            rfl
          refine one_ (i := 1) (N := some 39) #[true, true, true, false, true, false, false, false, false, false, false, false] rfl rfl (one_of HT_.out (by kernel_rfl)) (by decide) (fun K hK => ?_)
          refine goes_ Try.func53 (by kernel_rfl) rfl #[.agg #[.int .i64 a0_0, .int .i64 a0_1, .int .i64 x128002_1, .int .i64 x128003_1, .int .i64 a0_4, .int .i64 a0_5, .bool true], .int .i64 2, .int .i64 2, .int .i64 0] (by rfl) rfl rfl (by (try simp only [List.map_toArray, List.map_cons, List.map_nil]); first | done | rfl | (simp only [List.length_drop, List.length_take]; rfl)) ?_
          with_reducible refine (quad_mix.calls a0_0 a0_1 x128002_1 x128003_1 a0_4 a0_5 true 2 2 0 t138 t139 _ A18.out).mono ?_
          rintro e w38 ⟨rfl, hb⟩
          refine ⟨_, rfl, ?_⟩
          have n0_ := Aside0.mk (Kd.R_below (by (with_reducible repeat (first | apply Kd.R_alloc | apply Kd.R_drewN | apply Kd.R_drew)); exact HO132.out) hb)
          have n1_ := Aside0.mk (blk_below (g := gb127) (o := .cells #[.int .i64 a0_0, .int .i64 a0_1, .int .i64 x128002_1, .int .i64 x128003_1, .int .i64 a0_4, .int .i64 a0_5, .bool true] 37 (0, 0)) (by (with_reducible repeat (first | refine blk_drewN ?_ _ | refine blk_drew ?_ | refine blk_alloc ?_ _)); exact BK127.out) hb)
          have n2_ := Aside0.mk (blk_below (g := gb128) (o := .cells #[.int .i64 t134, .int .i64 t135, .int .i64 0, .int .i64 0, .int .i64 0, .int .i64 0, .bool false] 37 (0, 0)) (by (with_reducible repeat (first | refine blk_drewN ?_ _ | refine blk_drew ?_ | refine blk_alloc ?_ _)); exact BK128.out) hb)
          have n3_ := Aside0.mk (blk_below (g := gb129) (o := .cells #[.int .i64 0, .int .i64 0, .int .i64 0, .int .i64 0, .int .i64 t136, .int .i64 t137, .bool false] 37 (0, 0)) (by (with_reducible repeat (first | refine blk_drewN ?_ _ | refine blk_drew ?_ | refine blk_alloc ?_ _)); exact BK129.out) hb)
          have n4_ := Aside0.mk (below_step (by repeat (first | (with_reducible first | exact HB.out | apply below_alloc | apply pw_below_drewN | apply below_drew1 | refine below_set ?_ GE127.out | refine below_set ?_ GE128.out | refine below_set ?_ GE129.out) | exact HB.out)) hb)
          clear HO132
          clear BK127
          clear BK128
          clear BK129
          clear HB
          have HO132 := n0_
          have BK127 := n1_
          have BK128 := n2_
          have BK129 := n3_
          have HB := n4_
          clear n0_ n1_ n2_ n3_ n4_
          (try clear hb)
          (try clear hb2)
          (try clear hk)
          (try clear hi)
          refine hK.out _ _ ⟨(blk_cell BK127.out 0).trans rfl, (blk_cell BK127.out 1).trans rfl, (blk_cell BK127.out 2).trans rfl, (blk_cell BK127.out 3).trans rfl, (blk_cell BK127.out 4).trans rfl, (blk_cell BK127.out 5).trans rfl, (blk_cell BK127.out 6).trans rfl⟩ (fun hHeld => ?_)
          clear hK K
          refine norm_ (a' := ?_) ?_ ?_
          rotate_left
          · show Act.put _ (some 39) _ = _
            simp only [Act.put, List.setIfInBounds_toArray, List.set_cons_zero, List.set_cons_succ, i64_w, i32_w]
            rfl
          refine pure_ (i := 6) (N := some 44) (v := ?_) (a' := ?_) #[true, true, true, false, true, false, true, false, false, false, false, false] rfl rfl (any_of HT_.out (by kernel_rfl)) (fun _ _ _ h => h) (Or.inl ⟨by rfl, ?_⟩) ?_ ?_
          rotate_left
          · intro w'
            go_simp
            with_reducible rfl
          rotate_left
          · simp only [Act.put, List.setIfInBounds_toArray, List.set_cons_zero, List.set_cons_succ, i64_w, i32_w]
            rfl
          refine one_ (i := 3) (N := some 41) #[true, true, true, true, true, false, true, false, false, false, false, false] rfl rfl (one_of HT_.out (by kernel_rfl)) (by decide) (fun K hK => ?_)
          refine goes_ Try.func53 (by kernel_rfl) rfl #[.agg #[.int .i64 a0_0, .int .i64 a0_1, .int .i64 x128002_1, .int .i64 x128003_1, .int .i64 a0_4, .int .i64 a0_5, .bool true], .int .i64 1, .int .i64 2, .int .i64 1] (by rfl) rfl rfl (by (try simp only [List.map_toArray, List.map_cons, List.map_nil]); first | done | rfl | (simp only [List.length_drop, List.length_take]; rfl)) ?_
          with_reducible refine (quad_mix.calls a0_0 a0_1 x128002_1 x128003_1 a0_4 a0_5 true 1 2 1 t140 t141 _ A19.out).mono ?_
          rintro e w39 ⟨rfl, hb⟩
          refine ⟨_, rfl, ?_⟩
          have n0_ := Aside0.mk (Kd.R_below (by (with_reducible repeat (first | apply Kd.R_alloc | apply Kd.R_drewN | apply Kd.R_drew)); exact HO132.out) hb)
          have n1_ := Aside0.mk (blk_below (g := gb127) (o := .cells #[.int .i64 a0_0, .int .i64 a0_1, .int .i64 x128002_1, .int .i64 x128003_1, .int .i64 a0_4, .int .i64 a0_5, .bool true] 37 (0, 0)) (by (with_reducible repeat (first | refine blk_drewN ?_ _ | refine blk_drew ?_ | refine blk_alloc ?_ _)); exact BK127.out) hb)
          have n2_ := Aside0.mk (blk_below (g := gb128) (o := .cells #[.int .i64 t134, .int .i64 t135, .int .i64 0, .int .i64 0, .int .i64 0, .int .i64 0, .bool false] 37 (0, 0)) (by (with_reducible repeat (first | refine blk_drewN ?_ _ | refine blk_drew ?_ | refine blk_alloc ?_ _)); exact BK128.out) hb)
          have n3_ := Aside0.mk (blk_below (g := gb129) (o := .cells #[.int .i64 0, .int .i64 0, .int .i64 0, .int .i64 0, .int .i64 t136, .int .i64 t137, .bool false] 37 (0, 0)) (by (with_reducible repeat (first | refine blk_drewN ?_ _ | refine blk_drew ?_ | refine blk_alloc ?_ _)); exact BK129.out) hb)
          have n4_ := Aside0.mk (below_step (by repeat (first | (with_reducible first | exact HB.out | apply below_alloc | apply pw_below_drewN | apply below_drew1 | refine below_set ?_ GE127.out | refine below_set ?_ GE128.out | refine below_set ?_ GE129.out) | exact HB.out)) hb)
          clear HO132
          clear BK127
          clear BK128
          clear BK129
          clear HB
          have HO132 := n0_
          have BK127 := n1_
          have BK128 := n2_
          have BK129 := n3_
          have HB := n4_
          clear n0_ n1_ n2_ n3_ n4_
          (try clear hb)
          (try clear hb2)
          (try clear hk)
          (try clear hi)
          refine hK.out _ _ ⟨(blk_cell BK127.out 0).trans rfl, (blk_cell BK127.out 1).trans rfl, (blk_cell BK127.out 2).trans rfl, (blk_cell BK127.out 3).trans rfl, (blk_cell BK127.out 4).trans rfl, (blk_cell BK127.out 5).trans rfl, (blk_cell BK127.out 6).trans rfl⟩ (fun hHeld => ?_)
          clear hK K
          refine norm_ (a' := ?_) ?_ ?_
          rotate_left
          · show Act.put _ (some 41) _ = _
            simp only [Act.put, List.setIfInBounds_toArray, List.set_cons_zero, List.set_cons_succ, i64_w, i32_w]
            rfl
          refine one_ (i := 5) (N := some 43) #[true, true, true, true, true, true, true, false, false, false, false, false] rfl rfl (one_of HT_.out (by kernel_rfl)) (by decide) (fun K hK => ?_)
          refine goes_ Try.func53 (by kernel_rfl) rfl #[.agg #[.int .i64 a0_0, .int .i64 a0_1, .int .i64 x128002_1, .int .i64 x128003_1, .int .i64 a0_4, .int .i64 a0_5, .bool true], .int .i64 0, .int .i64 2, .int .i64 2] (by rfl) rfl rfl (by (try simp only [List.map_toArray, List.map_cons, List.map_nil]); first | done | rfl | (simp only [List.length_drop, List.length_take]; rfl)) ?_
          with_reducible refine (quad_mix.calls a0_0 a0_1 x128002_1 x128003_1 a0_4 a0_5 true 0 2 2 t142 t143 _ A20.out).mono ?_
          rintro e w40 ⟨rfl, hb⟩
          refine ⟨_, rfl, ?_⟩
          have n0_ := Aside0.mk (Kd.R_below (by (with_reducible repeat (first | apply Kd.R_alloc | apply Kd.R_drewN | apply Kd.R_drew)); exact HO132.out) hb)
          have n1_ := Aside0.mk (blk_below (g := gb127) (o := .cells #[.int .i64 a0_0, .int .i64 a0_1, .int .i64 x128002_1, .int .i64 x128003_1, .int .i64 a0_4, .int .i64 a0_5, .bool true] 37 (0, 0)) (by (with_reducible repeat (first | refine blk_drewN ?_ _ | refine blk_drew ?_ | refine blk_alloc ?_ _)); exact BK127.out) hb)
          have n2_ := Aside0.mk (blk_below (g := gb128) (o := .cells #[.int .i64 t134, .int .i64 t135, .int .i64 0, .int .i64 0, .int .i64 0, .int .i64 0, .bool false] 37 (0, 0)) (by (with_reducible repeat (first | refine blk_drewN ?_ _ | refine blk_drew ?_ | refine blk_alloc ?_ _)); exact BK128.out) hb)
          have n3_ := Aside0.mk (blk_below (g := gb129) (o := .cells #[.int .i64 0, .int .i64 0, .int .i64 0, .int .i64 0, .int .i64 t136, .int .i64 t137, .bool false] 37 (0, 0)) (by (with_reducible repeat (first | refine blk_drewN ?_ _ | refine blk_drew ?_ | refine blk_alloc ?_ _)); exact BK129.out) hb)
          have n4_ := Aside0.mk (below_step (by repeat (first | (with_reducible first | exact HB.out | apply below_alloc | apply pw_below_drewN | apply below_drew1 | refine below_set ?_ GE127.out | refine below_set ?_ GE128.out | refine below_set ?_ GE129.out) | exact HB.out)) hb)
          clear HO132
          clear BK127
          clear BK128
          clear BK129
          clear HB
          have HO132 := n0_
          have BK127 := n1_
          have BK128 := n2_
          have BK129 := n3_
          have HB := n4_
          clear n0_ n1_ n2_ n3_ n4_
          (try clear hb)
          (try clear hb2)
          (try clear hk)
          (try clear hi)
          refine hK.out _ _ ⟨(blk_cell BK127.out 0).trans rfl, (blk_cell BK127.out 1).trans rfl, (blk_cell BK127.out 2).trans rfl, (blk_cell BK127.out 3).trans rfl, (blk_cell BK127.out 4).trans rfl, (blk_cell BK127.out 5).trans rfl, (blk_cell BK127.out 6).trans rfl⟩ (fun hHeld => ?_)
          clear hK K
          refine norm_ (a' := ?_) ?_ ?_
          rotate_left
          · show Act.put _ (some 43) _ = _
            simp only [Act.put, List.setIfInBounds_toArray, List.set_cons_zero, List.set_cons_succ, i64_w, i32_w]
            rfl
          refine one_ (i := 7) (N := none) #[true, true, true, true, true, true, true, true, false, false, false, false] rfl rfl (one_of HT_.out (by kernel_rfl)) (by decide) (fun K hK => ?_)
          have hs41 : w40.cell? ⟨gb128, 2, none⟩ = some (.int .i64 0) := (blk_cell BK128.out 2).trans rfl
          have hfs41 := blk_frozen BK128.out 2
          have hns41_0 := NB127_128.out
          have hns41_2 := NB129_128.out
          have hms41_0 := NB128_127.out
          have hms41_2 := NB128_129.out
          have hs42 : w40.cell? ⟨gb128, 3, none⟩ = some (.int .i64 0) := (blk_cell BK128.out 3).trans rfl
          have hfs42 := blk_frozen BK128.out 3
          have hns42_0 := NB127_128.out
          have hns42_2 := NB129_128.out
          have hms42_0 := NB128_127.out
          have hms42_2 := NB128_129.out
          refine skip_ (w1 := ?_) ?_ ?_ ?_ ?_
          rotate_left
          · rfl
          · rfl
          · go_simp
            rfl
          clear hs41 hfs41 hns41_0 hns41_2 hms41_0 hms41_2 hs42 hfs42 hns42_0 hns42_2 hms42_0 hms42_2
          refine hK.out _ _ ⟨((cell_far (p := ⟨gb128, _, none⟩) NB127_128.out _).trans (((cell_far (p := ⟨gb128, _, none⟩) NB127_128.out _).trans (hHeld.1)))), ((cell_far (p := ⟨gb128, _, none⟩) NB127_128.out _).trans (((cell_far (p := ⟨gb128, _, none⟩) NB127_128.out _).trans (hHeld.2.1)))), ((cell_far (p := ⟨gb128, _, none⟩) NB127_128.out _).trans (((cell_far (p := ⟨gb128, _, none⟩) NB127_128.out _).trans (hHeld.2.2.1)))), ((cell_far (p := ⟨gb128, _, none⟩) NB127_128.out _).trans (((cell_far (p := ⟨gb128, _, none⟩) NB127_128.out _).trans (hHeld.2.2.2.1)))), ((cell_far (p := ⟨gb128, _, none⟩) NB127_128.out _).trans (((cell_far (p := ⟨gb128, _, none⟩) NB127_128.out _).trans (hHeld.2.2.2.2.1)))), ((cell_far (p := ⟨gb128, _, none⟩) NB127_128.out _).trans (((cell_far (p := ⟨gb128, _, none⟩) NB127_128.out _).trans (hHeld.2.2.2.2.2.1)))), ((cell_far (p := ⟨gb128, _, none⟩) NB127_128.out _).trans (((cell_far (p := ⟨gb128, _, none⟩) NB127_128.out _).trans (hHeld.2.2.2.2.2.2))))⟩ (fun hHeld => ?_)
          clear hK K
          refine pure_ (i := 8) (N := some 45) (v := ?_) (a' := ?_) #[true, true, true, true, true, true, true, true, true, false, false, false] rfl rfl (any_of HT_.out (by kernel_rfl)) (fun _ _ _ h => h) (Or.inl ⟨by rfl, ?_⟩) ?_ ?_
          rotate_left
          · intro w'
            go_simp
            with_reducible rfl
          rotate_left
          · simp only [Act.put, List.setIfInBounds_toArray, List.set_cons_zero, List.set_cons_succ, i64_w, i32_w]
            rfl
          refine one_ (i := 9) (N := none) #[true, true, true, true, true, true, true, true, true, true, false, false] rfl rfl (one_of HT_.out (by kernel_rfl)) (by decide) (fun K hK => ?_)
          have hs43 : w40.cell? ⟨gb128, 4, none⟩ = some (.int .i64 0) := (blk_cell BK128.out 4).trans rfl
          have hfs43 := blk_frozen BK128.out 4
          have hns43_0 := NB127_128.out
          have hns43_2 := NB129_128.out
          have hms43_0 := NB128_127.out
          have hms43_2 := NB128_129.out
          have hs44 : w40.cell? ⟨gb128, 5, none⟩ = some (.int .i64 0) := (blk_cell BK128.out 5).trans rfl
          have hfs44 := blk_frozen BK128.out 5
          have hns44_0 := NB127_128.out
          have hns44_2 := NB129_128.out
          have hms44_0 := NB128_127.out
          have hms44_2 := NB128_129.out
          refine skip_ (w1 := ?_) ?_ ?_ ?_ ?_
          rotate_left
          · rfl
          · rfl
          · go_simp
            rfl
          clear hs43 hfs43 hns43_0 hns43_2 hms43_0 hms43_2 hs44 hfs44 hns44_0 hns44_2 hms44_0 hms44_2
          refine hK.out _ _ ⟨((cell_far (p := ⟨gb128, _, none⟩) NB127_128.out _).trans (((cell_far (p := ⟨gb128, _, none⟩) NB127_128.out _).trans (hHeld.1)))), ((cell_far (p := ⟨gb128, _, none⟩) NB127_128.out _).trans (((cell_far (p := ⟨gb128, _, none⟩) NB127_128.out _).trans (hHeld.2.1)))), ((cell_far (p := ⟨gb128, _, none⟩) NB127_128.out _).trans (((cell_far (p := ⟨gb128, _, none⟩) NB127_128.out _).trans (hHeld.2.2.1)))), ((cell_far (p := ⟨gb128, _, none⟩) NB127_128.out _).trans (((cell_far (p := ⟨gb128, _, none⟩) NB127_128.out _).trans (hHeld.2.2.2.1)))), ((cell_far (p := ⟨gb128, _, none⟩) NB127_128.out _).trans (((cell_far (p := ⟨gb128, _, none⟩) NB127_128.out _).trans (hHeld.2.2.2.2.1)))), ((cell_far (p := ⟨gb128, _, none⟩) NB127_128.out _).trans (((cell_far (p := ⟨gb128, _, none⟩) NB127_128.out _).trans (hHeld.2.2.2.2.2.1)))), ((cell_far (p := ⟨gb128, _, none⟩) NB127_128.out _).trans (((cell_far (p := ⟨gb128, _, none⟩) NB127_128.out _).trans (hHeld.2.2.2.2.2.2))))⟩ (fun hHeld => ?_)
          clear hK K
          refine pure_ (i := 10) (N := some 46) (v := ?_) (a' := ?_) #[true, true, true, true, true, true, true, true, true, true, true, false] rfl rfl (any_of HT_.out (by kernel_rfl)) (fun _ _ _ h => h) (Or.inl ⟨by rfl, ?_⟩) ?_ ?_
          rotate_left
          · intro w'
            go_simp
            with_reducible rfl
          rotate_left
          · simp only [Act.put, List.setIfInBounds_toArray, List.set_cons_zero, List.set_cons_succ, i64_w, i32_w]
            rfl
          refine one_ (i := 11) (N := none) #[true, true, true, true, true, true, true, true, true, true, true, true] rfl rfl (one_of HT_.out (by kernel_rfl)) (by decide) (fun K hK => ?_)
          have hs45 : w40.cell? ⟨gb129, 2, none⟩ = some (.int .i64 0) := (blk_cell BK129.out 2).trans rfl
          have hfs45 := blk_frozen BK129.out 2
          have hns45_0 := NB127_129.out
          have hns45_1 := NB128_129.out
          have hms45_0 := NB129_127.out
          have hms45_1 := NB129_128.out
          have hs46 : w40.cell? ⟨gb129, 3, none⟩ = some (.int .i64 0) := (blk_cell BK129.out 3).trans rfl
          have hfs46 := blk_frozen BK129.out 3
          have hns46_0 := NB127_129.out
          have hns46_1 := NB128_129.out
          have hms46_0 := NB129_127.out
          have hms46_1 := NB129_128.out
          refine skip_ (w1 := ?_) ?_ ?_ ?_ ?_
          rotate_left
          · rfl
          · rfl
          · go_simp
            rfl
          clear hs45 hfs45 hns45_0 hns45_1 hms45_0 hms45_1 hs46 hfs46 hns46_0 hns46_1 hms46_0 hms46_1
          refine hK.out _ _ ⟨((cell_far (p := ⟨gb129, _, none⟩) NB127_129.out _).trans (((cell_far (p := ⟨gb129, _, none⟩) NB127_129.out _).trans (hHeld.1)))), ((cell_far (p := ⟨gb129, _, none⟩) NB127_129.out _).trans (((cell_far (p := ⟨gb129, _, none⟩) NB127_129.out _).trans (hHeld.2.1)))), ((cell_far (p := ⟨gb129, _, none⟩) NB127_129.out _).trans (((cell_far (p := ⟨gb129, _, none⟩) NB127_129.out _).trans (hHeld.2.2.1)))), ((cell_far (p := ⟨gb129, _, none⟩) NB127_129.out _).trans (((cell_far (p := ⟨gb129, _, none⟩) NB127_129.out _).trans (hHeld.2.2.2.1)))), ((cell_far (p := ⟨gb129, _, none⟩) NB127_129.out _).trans (((cell_far (p := ⟨gb129, _, none⟩) NB127_129.out _).trans (hHeld.2.2.2.2.1)))), ((cell_far (p := ⟨gb129, _, none⟩) NB127_129.out _).trans (((cell_far (p := ⟨gb129, _, none⟩) NB127_129.out _).trans (hHeld.2.2.2.2.2.1)))), ((cell_far (p := ⟨gb129, _, none⟩) NB127_129.out _).trans (((cell_far (p := ⟨gb129, _, none⟩) NB127_129.out _).trans (hHeld.2.2.2.2.2.2))))⟩ (fun hHeld => ?_)
          clear hK K
          refine done_ (done_of HT_.out (by kernel_rfl)) ?_
          have hnb47 := NB128_129.out
          have hnc47 := NB129_128.out
          have hcz48_0 : w40.cell? ⟨gb128, 0, none⟩ = some (.int .i64 t134) := (blk_cell BK128.out 0).trans rfl
          have hcz48_1 : w40.cell? ⟨gb128, 1, none⟩ = some (.int .i64 t135) := (blk_cell BK128.out 1).trans rfl
          have hcz48_2 : w40.cell? ⟨gb128, 2, none⟩ = some (.int .i64 0) := (blk_cell BK128.out 2).trans rfl
          have hcz48_3 : w40.cell? ⟨gb128, 3, none⟩ = some (.int .i64 0) := (blk_cell BK128.out 3).trans rfl
          have hcz48_4 : w40.cell? ⟨gb128, 4, none⟩ = some (.int .i64 0) := (blk_cell BK128.out 4).trans rfl
          have hcz48_5 : w40.cell? ⟨gb128, 5, none⟩ = some (.int .i64 0) := (blk_cell BK128.out 5).trans rfl
          have hcz48_6 : w40.cell? ⟨gb128, 6, none⟩ = some (.bool false) := (blk_cell BK128.out 6).trans rfl
          have hfz48_0 := blk_frozen BK128.out 0
          have hfz48_1 := blk_frozen BK128.out 1
          have hfz48_2 := blk_frozen BK128.out 2
          have hfz48_3 := blk_frozen BK128.out 3
          have hfz48_4 := blk_frozen BK128.out 4
          have hfz48_5 := blk_frozen BK128.out 5
          have hfz48_6 := blk_frozen BK128.out 6
          have hcz49_0 : w40.cell? ⟨gb129, 0, none⟩ = some (.int .i64 0) := (blk_cell BK129.out 0).trans rfl
          have hcz49_1 : w40.cell? ⟨gb129, 1, none⟩ = some (.int .i64 0) := (blk_cell BK129.out 1).trans rfl
          have hcz49_2 : w40.cell? ⟨gb129, 2, none⟩ = some (.int .i64 0) := (blk_cell BK129.out 2).trans rfl
          have hcz49_3 : w40.cell? ⟨gb129, 3, none⟩ = some (.int .i64 0) := (blk_cell BK129.out 3).trans rfl
          have hcz49_4 : w40.cell? ⟨gb129, 4, none⟩ = some (.int .i64 t136) := (blk_cell BK129.out 4).trans rfl
          have hcz49_5 : w40.cell? ⟨gb129, 5, none⟩ = some (.int .i64 t137) := (blk_cell BK129.out 5).trans rfl
          have hcz49_6 : w40.cell? ⟨gb129, 6, none⟩ = some (.bool false) := (blk_cell BK129.out 6).trans rfl
          have hfz49_0 := blk_frozen BK129.out 0
          have hfz49_1 := blk_frozen BK129.out 1
          have hfz49_2 := blk_frozen BK129.out 2
          have hfz49_3 := blk_frozen BK129.out 3
          have hfz49_4 := blk_frozen BK129.out 4
          have hfz49_5 := blk_frozen BK129.out 5
          have hfz49_6 := blk_frozen BK129.out 6
          try go_wp2
          have n0_ : Aside0 (Kd.R k33 33 ((((((((((w40.setCell ⟨gb128, 2, none⟩ (.int .i64 t138)).setCell ⟨gb128, 3, none⟩ (.int .i64 t139)).setCell ⟨gb128, 4, none⟩ (.int .i64 t140)).setCell ⟨gb128, 5, none⟩ (.int .i64 t141)).setCell ⟨gb129, 2, none⟩ (.int .i64 t142)).setCell ⟨gb129, 3, none⟩ (.int .i64 t143)).setCell ⟨gb129, 0, none⟩ (.int .i64 t140)).setCell ⟨gb129, 1, none⟩ (.int .i64 t141)).setCell ⟨gb128, 6, none⟩ (.bool true)).setCell ⟨gb129, 6, none⟩ (.bool true)) w.heap.size (fun _ => True) (.slice Ao26 y130.length co26) y130) := ⟨by (with_reducible repeat (first | apply Kd.R_alloc | apply Kd.R_drewN | apply Kd.R_drew)); exact Kd.R_mono (Kd.R_far (p := ⟨gb129, 6, none⟩) (Kd.R_far (p := ⟨gb128, 6, none⟩) (Kd.R_far (p := ⟨gb129, 1, none⟩) (Kd.R_far (p := ⟨gb129, 0, none⟩) (Kd.R_far (p := ⟨gb129, 3, none⟩) (Kd.R_far (p := ⟨gb129, 2, none⟩) (Kd.R_far (p := ⟨gb128, 5, none⟩) (Kd.R_far (p := ⟨gb128, 4, none⟩) (Kd.R_far (p := ⟨gb128, 3, none⟩) (Kd.R_far (p := ⟨gb128, 2, none⟩) (Kd.R_types (Kd.R_types HO132.out BK128.out (by decide)) BK129.out (by decide)) (fun _ hk => hk.1.2) (.int .i64 t138)) (fun _ hk => hk.1.2) (.int .i64 t139)) (fun _ hk => hk.1.2) (.int .i64 t140)) (fun _ hk => hk.1.2) (.int .i64 t141)) (fun _ hk => hk.2) (.int .i64 t142)) (fun _ hk => hk.2) (.int .i64 t143)) (fun _ hk => hk.2) (.int .i64 t140)) (fun _ hk => hk.2) (.int .i64 t141)) (fun _ hk => hk.1.2) (.bool true)) (fun _ hk => hk.2) (.bool true)) (fun _ hk => trivial)⟩
          have n1_ : Aside0 (((((((((((w40.setCell ⟨gb128, 2, none⟩ (.int .i64 t138)).setCell ⟨gb128, 3, none⟩ (.int .i64 t139)).setCell ⟨gb128, 4, none⟩ (.int .i64 t140)).setCell ⟨gb128, 5, none⟩ (.int .i64 t141)).setCell ⟨gb129, 2, none⟩ (.int .i64 t142)).setCell ⟨gb129, 3, none⟩ (.int .i64 t143)).setCell ⟨gb129, 0, none⟩ (.int .i64 t140)).setCell ⟨gb129, 1, none⟩ (.int .i64 t141)).setCell ⟨gb128, 6, none⟩ (.bool true)).setCell ⟨gb129, 6, none⟩ (.bool true)).heap[gb127]? = some (.cells #[.int .i64 a0_0, .int .i64 a0_1, .int .i64 x128002_1, .int .i64 x128003_1, .int .i64 a0_4, .int .i64 a0_5, .bool true] 37 (0, 0))) := ⟨by (with_reducible repeat (first | refine blk_drewN ?_ _ | refine blk_drew ?_ | refine blk_alloc ?_ _)); refine blk_far ?_ NB127_129.out _; (with_reducible repeat (first | refine blk_drewN ?_ _ | refine blk_drew ?_ | refine blk_alloc ?_ _)); refine blk_far ?_ NB127_128.out _; (with_reducible repeat (first | refine blk_drewN ?_ _ | refine blk_drew ?_ | refine blk_alloc ?_ _)); refine blk_far ?_ NB127_129.out _; (with_reducible repeat (first | refine blk_drewN ?_ _ | refine blk_drew ?_ | refine blk_alloc ?_ _)); refine blk_far ?_ NB127_129.out _; (with_reducible repeat (first | refine blk_drewN ?_ _ | refine blk_drew ?_ | refine blk_alloc ?_ _)); refine blk_far ?_ NB127_129.out _; (with_reducible repeat (first | refine blk_drewN ?_ _ | refine blk_drew ?_ | refine blk_alloc ?_ _)); refine blk_far ?_ NB127_129.out _; (with_reducible repeat (first | refine blk_drewN ?_ _ | refine blk_drew ?_ | refine blk_alloc ?_ _)); refine blk_far ?_ NB127_128.out _; (with_reducible repeat (first | refine blk_drewN ?_ _ | refine blk_drew ?_ | refine blk_alloc ?_ _)); refine blk_far ?_ NB127_128.out _; (with_reducible repeat (first | refine blk_drewN ?_ _ | refine blk_drew ?_ | refine blk_alloc ?_ _)); refine blk_far ?_ NB127_128.out _; (with_reducible repeat (first | refine blk_drewN ?_ _ | refine blk_drew ?_ | refine blk_alloc ?_ _)); refine blk_far ?_ NB127_128.out _; (with_reducible repeat (first | refine blk_drewN ?_ _ | refine blk_drew ?_ | refine blk_alloc ?_ _)); exact BK127.out⟩
          have n2_ : Aside0 (((((((((((w40.setCell ⟨gb128, 2, none⟩ (.int .i64 t138)).setCell ⟨gb128, 3, none⟩ (.int .i64 t139)).setCell ⟨gb128, 4, none⟩ (.int .i64 t140)).setCell ⟨gb128, 5, none⟩ (.int .i64 t141)).setCell ⟨gb129, 2, none⟩ (.int .i64 t142)).setCell ⟨gb129, 3, none⟩ (.int .i64 t143)).setCell ⟨gb129, 0, none⟩ (.int .i64 t140)).setCell ⟨gb129, 1, none⟩ (.int .i64 t141)).setCell ⟨gb128, 6, none⟩ (.bool true)).setCell ⟨gb129, 6, none⟩ (.bool true)).heap[gb128]? = some (.cells #[.int .i64 t134, .int .i64 t135, .int .i64 t138, .int .i64 t139, .int .i64 t140, .int .i64 t141, .bool true] 37 (0, 0))) := ⟨by (with_reducible repeat (first | refine blk_drewN ?_ _ | refine blk_drew ?_ | refine blk_alloc ?_ _)); refine blk_far ?_ NB128_129.out _; (with_reducible repeat (first | refine blk_drewN ?_ _ | refine blk_drew ?_ | refine blk_alloc ?_ _)); refine blk_put (cs := #[.int .i64 t134, .int .i64 t135, .int .i64 t138, .int .i64 t139, .int .i64 t140, .int .i64 t141, .bool false]) ?_ 6 _ rfl; (with_reducible repeat (first | refine blk_drewN ?_ _ | refine blk_drew ?_ | refine blk_alloc ?_ _)); refine blk_far ?_ NB128_129.out _; (with_reducible repeat (first | refine blk_drewN ?_ _ | refine blk_drew ?_ | refine blk_alloc ?_ _)); refine blk_far ?_ NB128_129.out _; (with_reducible repeat (first | refine blk_drewN ?_ _ | refine blk_drew ?_ | refine blk_alloc ?_ _)); refine blk_far ?_ NB128_129.out _; (with_reducible repeat (first | refine blk_drewN ?_ _ | refine blk_drew ?_ | refine blk_alloc ?_ _)); refine blk_far ?_ NB128_129.out _; (with_reducible repeat (first | refine blk_drewN ?_ _ | refine blk_drew ?_ | refine blk_alloc ?_ _)); refine blk_put (cs := #[.int .i64 t134, .int .i64 t135, .int .i64 t138, .int .i64 t139, .int .i64 t140, .int .i64 0, .bool false]) ?_ 5 _ rfl; (with_reducible repeat (first | refine blk_drewN ?_ _ | refine blk_drew ?_ | refine blk_alloc ?_ _)); refine blk_put (cs := #[.int .i64 t134, .int .i64 t135, .int .i64 t138, .int .i64 t139, .int .i64 0, .int .i64 0, .bool false]) ?_ 4 _ rfl; (with_reducible repeat (first | refine blk_drewN ?_ _ | refine blk_drew ?_ | refine blk_alloc ?_ _)); refine blk_put (cs := #[.int .i64 t134, .int .i64 t135, .int .i64 t138, .int .i64 0, .int .i64 0, .int .i64 0, .bool false]) ?_ 3 _ rfl; (with_reducible repeat (first | refine blk_drewN ?_ _ | refine blk_drew ?_ | refine blk_alloc ?_ _)); refine blk_put (cs := #[.int .i64 t134, .int .i64 t135, .int .i64 0, .int .i64 0, .int .i64 0, .int .i64 0, .bool false]) ?_ 2 _ rfl; (with_reducible repeat (first | refine blk_drewN ?_ _ | refine blk_drew ?_ | refine blk_alloc ?_ _)); exact BK128.out⟩
          have n3_ : Aside0 (((((((((((w40.setCell ⟨gb128, 2, none⟩ (.int .i64 t138)).setCell ⟨gb128, 3, none⟩ (.int .i64 t139)).setCell ⟨gb128, 4, none⟩ (.int .i64 t140)).setCell ⟨gb128, 5, none⟩ (.int .i64 t141)).setCell ⟨gb129, 2, none⟩ (.int .i64 t142)).setCell ⟨gb129, 3, none⟩ (.int .i64 t143)).setCell ⟨gb129, 0, none⟩ (.int .i64 t140)).setCell ⟨gb129, 1, none⟩ (.int .i64 t141)).setCell ⟨gb128, 6, none⟩ (.bool true)).setCell ⟨gb129, 6, none⟩ (.bool true)).heap[gb129]? = some (.cells #[.int .i64 t140, .int .i64 t141, .int .i64 t142, .int .i64 t143, .int .i64 t136, .int .i64 t137, .bool true] 37 (0, 0))) := ⟨by (with_reducible repeat (first | refine blk_drewN ?_ _ | refine blk_drew ?_ | refine blk_alloc ?_ _)); refine blk_put (cs := #[.int .i64 t140, .int .i64 t141, .int .i64 t142, .int .i64 t143, .int .i64 t136, .int .i64 t137, .bool false]) ?_ 6 _ rfl; (with_reducible repeat (first | refine blk_drewN ?_ _ | refine blk_drew ?_ | refine blk_alloc ?_ _)); refine blk_far ?_ NB129_128.out _; (with_reducible repeat (first | refine blk_drewN ?_ _ | refine blk_drew ?_ | refine blk_alloc ?_ _)); refine blk_put (cs := #[.int .i64 t140, .int .i64 0, .int .i64 t142, .int .i64 t143, .int .i64 t136, .int .i64 t137, .bool false]) ?_ 1 _ rfl; (with_reducible repeat (first | refine blk_drewN ?_ _ | refine blk_drew ?_ | refine blk_alloc ?_ _)); refine blk_put (cs := #[.int .i64 0, .int .i64 0, .int .i64 t142, .int .i64 t143, .int .i64 t136, .int .i64 t137, .bool false]) ?_ 0 _ rfl; (with_reducible repeat (first | refine blk_drewN ?_ _ | refine blk_drew ?_ | refine blk_alloc ?_ _)); refine blk_put (cs := #[.int .i64 0, .int .i64 0, .int .i64 t142, .int .i64 0, .int .i64 t136, .int .i64 t137, .bool false]) ?_ 3 _ rfl; (with_reducible repeat (first | refine blk_drewN ?_ _ | refine blk_drew ?_ | refine blk_alloc ?_ _)); refine blk_put (cs := #[.int .i64 0, .int .i64 0, .int .i64 0, .int .i64 0, .int .i64 t136, .int .i64 t137, .bool false]) ?_ 2 _ rfl; (with_reducible repeat (first | refine blk_drewN ?_ _ | refine blk_drew ?_ | refine blk_alloc ?_ _)); refine blk_far ?_ NB129_128.out _; (with_reducible repeat (first | refine blk_drewN ?_ _ | refine blk_drew ?_ | refine blk_alloc ?_ _)); refine blk_far ?_ NB129_128.out _; (with_reducible repeat (first | refine blk_drewN ?_ _ | refine blk_drew ?_ | refine blk_alloc ?_ _)); refine blk_far ?_ NB129_128.out _; (with_reducible repeat (first | refine blk_drewN ?_ _ | refine blk_drew ?_ | refine blk_alloc ?_ _)); refine blk_far ?_ NB129_128.out _; (with_reducible repeat (first | refine blk_drewN ?_ _ | refine blk_drew ?_ | refine blk_alloc ?_ _)); exact BK129.out⟩
          have n4_ : Aside0 (Below w.heap.size w ((((((((((w40.setCell ⟨gb128, 2, none⟩ (.int .i64 t138)).setCell ⟨gb128, 3, none⟩ (.int .i64 t139)).setCell ⟨gb128, 4, none⟩ (.int .i64 t140)).setCell ⟨gb128, 5, none⟩ (.int .i64 t141)).setCell ⟨gb129, 2, none⟩ (.int .i64 t142)).setCell ⟨gb129, 3, none⟩ (.int .i64 t143)).setCell ⟨gb129, 0, none⟩ (.int .i64 t140)).setCell ⟨gb129, 1, none⟩ (.int .i64 t141)).setCell ⟨gb128, 6, none⟩ (.bool true)).setCell ⟨gb129, 6, none⟩ (.bool true))) := ⟨by repeat (first | (with_reducible first | exact HB.out | apply below_alloc | apply pw_below_drewN | apply below_drew1 | refine below_set ?_ GE127.out | refine below_set ?_ GE128.out | refine below_set ?_ GE129.out) | exact HB.out)⟩
          (try clear HO132)
          (try clear BK127)
          (try clear BK128)
          (try clear BK129)
          (try clear HB)
          generalize ((((((((((w40.setCell ⟨gb128, 2, none⟩ (.int .i64 t138)).setCell ⟨gb128, 3, none⟩ (.int .i64 t139)).setCell ⟨gb128, 4, none⟩ (.int .i64 t140)).setCell ⟨gb128, 5, none⟩ (.int .i64 t141)).setCell ⟨gb129, 2, none⟩ (.int .i64 t142)).setCell ⟨gb129, 3, none⟩ (.int .i64 t143)).setCell ⟨gb129, 0, none⟩ (.int .i64 t140)).setCell ⟨gb129, 1, none⟩ (.int .i64 t141)).setCell ⟨gb128, 6, none⟩ (.bool true)).setCell ⟨gb129, 6, none⟩ (.bool true)) = w50 at n0_ n1_ n2_ n3_ n4_ ⊢
          have HO132 := n0_
          have BK127 := n1_
          have BK128 := n2_
          have BK129 := n3_
          have HB := n4_
          clear n0_ n1_ n2_ n3_ n4_
          have n0_ := Aside0.mk (Kd.R_drew HO132.out)
          have n1_ := Aside0.mk (blk_drew BK127.out)
          have n2_ := Aside0.mk (blk_drew BK128.out)
          have n3_ := Aside0.mk (blk_drew BK129.out)
          have n4_ := Aside0.mk (below_drew1 HB.out)
          clear HO132
          clear BK127
          clear BK128
          clear BK129
          clear HB
          have HO132 := n0_
          have BK127 := n1_
          have BK128 := n2_
          have BK129 := n3_
          have HB := n4_
          clear n0_ n1_ n2_ n3_ n4_
          refine start_ (n := 5) (S := fun w' => w'.cell? ⟨gb128, 0, none⟩ = some (.int .i64 t134) ∧ w'.cell? ⟨gb128, 1, none⟩ = some (.int .i64 t135) ∧ w'.cell? ⟨gb128, 2, none⟩ = some (.int .i64 t138) ∧ w'.cell? ⟨gb128, 3, none⟩ = some (.int .i64 t139) ∧ w'.cell? ⟨gb128, 4, none⟩ = some (.int .i64 t140) ∧ w'.cell? ⟨gb128, 5, none⟩ = some (.int .i64 t141) ∧ w'.cell? ⟨gb128, 6, none⟩ = some (.bool true) ∧ w'.cell? ⟨gb129, 0, none⟩ = some (.int .i64 t140) ∧ w'.cell? ⟨gb129, 1, none⟩ = some (.int .i64 t141) ∧ w'.cell? ⟨gb129, 2, none⟩ = some (.int .i64 t142) ∧ w'.cell? ⟨gb129, 3, none⟩ = some (.int .i64 t143) ∧ w'.cell? ⟨gb129, 4, none⟩ = some (.int .i64 t136) ∧ w'.cell? ⟨gb129, 5, none⟩ = some (.int .i64 t137) ∧ w'.cell? ⟨gb129, 6, none⟩ = some (.bool true)) (ds := []) #[false, false, false, false, false] (by kernel_rfl) rfl rfl ⟨(blk_cell BK128.out 0).trans rfl, (blk_cell BK128.out 1).trans rfl, (blk_cell BK128.out 2).trans rfl, (blk_cell BK128.out 3).trans rfl, (blk_cell BK128.out 4).trans rfl, (blk_cell BK128.out 5).trans rfl, (blk_cell BK128.out 6).trans rfl, (blk_cell BK129.out 0).trans rfl, (blk_cell BK129.out 1).trans rfl, (blk_cell BK129.out 2).trans rfl, (blk_cell BK129.out 3).trans rfl, (blk_cell BK129.out 4).trans rfl, (blk_cell BK129.out 5).trans rfl, (blk_cell BK129.out 6).trans rfl⟩ (fun hHeld => ?_)
          generalize w50.drew = w51 at HO132 BK127 BK128 BK129 HB hHeld ⊢
          refine take_ (i := 0) (N := some 52) (v := ?_) (a' := ?_) #[true, false, false, false, false] rfl rfl (by kernel_rfl) (fun _ _ _ h => h) (Or.inl ⟨by rfl, ?_⟩) hHeld ?_ ?_
          rotate_left
          · rintro w' ⟨s0, s1, s2, s3, s4, s5, s6, s7, s8, s9, s10, s11, s12, s13⟩
            go_simp
            with_reducible rfl
          rotate_left
          · simp only [Act.put, List.setIfInBounds_toArray, List.set_cons_zero, List.set_cons_succ, i64_w, i32_w]
            rfl
          refine take_ (i := 1) (N := some 53) (v := ?_) (a' := ?_) #[true, true, false, false, false] rfl rfl (by kernel_rfl) (fun _ _ _ h => h) (Or.inl ⟨by rfl, ?_⟩) hHeld ?_ ?_
          rotate_left
          · rintro w' ⟨s0, s1, s2, s3, s4, s5, s6, s7, s8, s9, s10, s11, s12, s13⟩
            go_simp
            with_reducible rfl
          rotate_left
          · simp only [Act.put, List.setIfInBounds_toArray, List.set_cons_zero, List.set_cons_succ, i64_w, i32_w]
            rfl
          refine one_ (i := 2) (N := none) #[true, true, true, false, false] rfl rfl (by kernel_rfl) (by decide) (fun K hK => ?_)
          have hs52 : w51.cell? ⟨gb128, 0, none⟩ = some (.int .i64 t134) := (blk_cell BK128.out 0).trans rfl
          have hfs52 := blk_frozen BK128.out 0
          have hns52_0 := NB127_128.out
          have hns52_2 := NB129_128.out
          have hms52_0 := NB128_127.out
          have hms52_2 := NB128_129.out
          have hs53 : w51.cell? ⟨gb128, 1, none⟩ = some (.int .i64 t135) := (blk_cell BK128.out 1).trans rfl
          have hfs53 := blk_frozen BK128.out 1
          have hns53_0 := NB127_128.out
          have hns53_2 := NB129_128.out
          have hms53_0 := NB128_127.out
          have hms53_2 := NB128_129.out
          have hs54 : w51.cell? ⟨gb128, 2, none⟩ = some (.int .i64 t138) := (blk_cell BK128.out 2).trans rfl
          have hfs54 := blk_frozen BK128.out 2
          have hns54_0 := NB127_128.out
          have hns54_2 := NB129_128.out
          have hms54_0 := NB128_127.out
          have hms54_2 := NB128_129.out
          have hs55 : w51.cell? ⟨gb128, 3, none⟩ = some (.int .i64 t139) := (blk_cell BK128.out 3).trans rfl
          have hfs55 := blk_frozen BK128.out 3
          have hns55_0 := NB127_128.out
          have hns55_2 := NB129_128.out
          have hms55_0 := NB128_127.out
          have hms55_2 := NB128_129.out
          have hs56 : w51.cell? ⟨gb128, 4, none⟩ = some (.int .i64 t140) := (blk_cell BK128.out 4).trans rfl
          have hfs56 := blk_frozen BK128.out 4
          have hns56_0 := NB127_128.out
          have hns56_2 := NB129_128.out
          have hms56_0 := NB128_127.out
          have hms56_2 := NB128_129.out
          have hs57 : w51.cell? ⟨gb128, 5, none⟩ = some (.int .i64 t141) := (blk_cell BK128.out 5).trans rfl
          have hfs57 := blk_frozen BK128.out 5
          have hns57_0 := NB127_128.out
          have hns57_2 := NB129_128.out
          have hms57_0 := NB128_127.out
          have hms57_2 := NB128_129.out
          have hs58 : w51.cell? ⟨gb128, 6, none⟩ = some (.bool true) := (blk_cell BK128.out 6).trans rfl
          have hfs58 := blk_frozen BK128.out 6
          have hns58_0 := NB127_128.out
          have hns58_2 := NB129_128.out
          have hms58_0 := NB128_127.out
          have hms58_2 := NB128_129.out
          refine skip_ (w1 := ?_) ?_ ?_ ?_ ?_
          rotate_left
          · rfl
          · rfl
          · go_simp
            rfl
          clear hs52 hfs52 hns52_0 hns52_2 hms52_0 hms52_2 hs53 hfs53 hns53_0 hns53_2 hms53_0 hms53_2 hs54 hfs54 hns54_0 hns54_2 hms54_0 hms54_2 hs55 hfs55 hns55_0 hns55_2 hms55_0 hms55_2 hs56 hfs56 hns56_0 hns56_2 hms56_0 hms56_2 hs57 hfs57 hns57_0 hns57_2 hms57_0 hms57_2 hs58 hfs58 hns58_0 hns58_2 hms58_0 hms58_2
          have hself_ := Aid.set_more (Aid.set_more (Aid.set_more (Aid.set_more (Aid.set_more (Aid.set_more (Aid.set_same hHeld.1) hHeld.2.1) hHeld.2.2.1) hHeld.2.2.2.1) hHeld.2.2.2.2.1) hHeld.2.2.2.2.2.1) hHeld.2.2.2.2.2.2.1
          have hst0_ := Aid.keep_eq hself_ hHeld.1
          have hst1_ := Aid.keep_eq hself_ hHeld.2.1
          have hst2_ := Aid.keep_eq hself_ hHeld.2.2.1
          have hst3_ := Aid.keep_eq hself_ hHeld.2.2.2.1
          have hst4_ := Aid.keep_eq hself_ hHeld.2.2.2.2.1
          have hst5_ := Aid.keep_eq hself_ hHeld.2.2.2.2.2.1
          have hst6_ := Aid.keep_eq hself_ hHeld.2.2.2.2.2.2.1
          have hst7_ := Aid.keep_eq hself_ hHeld.2.2.2.2.2.2.2.1
          have hst8_ := Aid.keep_eq hself_ hHeld.2.2.2.2.2.2.2.2.1
          have hst9_ := Aid.keep_eq hself_ hHeld.2.2.2.2.2.2.2.2.2.1
          have hst10_ := Aid.keep_eq hself_ hHeld.2.2.2.2.2.2.2.2.2.2.1
          have hst11_ := Aid.keep_eq hself_ hHeld.2.2.2.2.2.2.2.2.2.2.2.1
          have hst12_ := Aid.keep_eq hself_ hHeld.2.2.2.2.2.2.2.2.2.2.2.2.1
          have hst13_ := Aid.keep_eq hself_ hHeld.2.2.2.2.2.2.2.2.2.2.2.2.2
          clear hself_
          refine hK.out _ _ ⟨hst0_, hst1_, hst2_, hst3_, hst4_, hst5_, hst6_, hst7_, hst8_, hst9_, hst10_, hst11_, hst12_, hst13_⟩ (fun hHeld => ?_)
          clear hK K
          refine one_ (i := 3) (N := none) #[true, true, true, true, false] rfl rfl (by kernel_rfl) (by decide) (fun K hK => ?_)
          have hs59 : w51.cell? ⟨gb129, 0, none⟩ = some (.int .i64 t140) := (blk_cell BK129.out 0).trans rfl
          have hfs59 := blk_frozen BK129.out 0
          have hns59_0 := NB127_129.out
          have hns59_1 := NB128_129.out
          have hms59_0 := NB129_127.out
          have hms59_1 := NB129_128.out
          have hs60 : w51.cell? ⟨gb129, 1, none⟩ = some (.int .i64 t141) := (blk_cell BK129.out 1).trans rfl
          have hfs60 := blk_frozen BK129.out 1
          have hns60_0 := NB127_129.out
          have hns60_1 := NB128_129.out
          have hms60_0 := NB129_127.out
          have hms60_1 := NB129_128.out
          have hs61 : w51.cell? ⟨gb129, 2, none⟩ = some (.int .i64 t142) := (blk_cell BK129.out 2).trans rfl
          have hfs61 := blk_frozen BK129.out 2
          have hns61_0 := NB127_129.out
          have hns61_1 := NB128_129.out
          have hms61_0 := NB129_127.out
          have hms61_1 := NB129_128.out
          have hs62 : w51.cell? ⟨gb129, 3, none⟩ = some (.int .i64 t143) := (blk_cell BK129.out 3).trans rfl
          have hfs62 := blk_frozen BK129.out 3
          have hns62_0 := NB127_129.out
          have hns62_1 := NB128_129.out
          have hms62_0 := NB129_127.out
          have hms62_1 := NB129_128.out
          have hs63 : w51.cell? ⟨gb129, 4, none⟩ = some (.int .i64 t136) := (blk_cell BK129.out 4).trans rfl
          have hfs63 := blk_frozen BK129.out 4
          have hns63_0 := NB127_129.out
          have hns63_1 := NB128_129.out
          have hms63_0 := NB129_127.out
          have hms63_1 := NB129_128.out
          have hs64 : w51.cell? ⟨gb129, 5, none⟩ = some (.int .i64 t137) := (blk_cell BK129.out 5).trans rfl
          have hfs64 := blk_frozen BK129.out 5
          have hns64_0 := NB127_129.out
          have hns64_1 := NB128_129.out
          have hms64_0 := NB129_127.out
          have hms64_1 := NB129_128.out
          have hs65 : w51.cell? ⟨gb129, 6, none⟩ = some (.bool true) := (blk_cell BK129.out 6).trans rfl
          have hfs65 := blk_frozen BK129.out 6
          have hns65_0 := NB127_129.out
          have hns65_1 := NB128_129.out
          have hms65_0 := NB129_127.out
          have hms65_1 := NB129_128.out
          refine skip_ (w1 := ?_) ?_ ?_ ?_ ?_
          rotate_left
          · rfl
          · rfl
          · go_simp
            rfl
          clear hs59 hfs59 hns59_0 hns59_1 hms59_0 hms59_1 hs60 hfs60 hns60_0 hns60_1 hms60_0 hms60_1 hs61 hfs61 hns61_0 hns61_1 hms61_0 hms61_1 hs62 hfs62 hns62_0 hns62_1 hms62_0 hms62_1 hs63 hfs63 hns63_0 hns63_1 hms63_0 hms63_1 hs64 hfs64 hns64_0 hns64_1 hms64_0 hms64_1 hs65 hfs65 hns65_0 hns65_1 hms65_0 hms65_1
          have hself_ := Aid.set_more (Aid.set_more (Aid.set_more (Aid.set_more (Aid.set_more (Aid.set_more (Aid.set_same hHeld.2.2.2.2.2.2.2.1) hHeld.2.2.2.2.2.2.2.2.1) hHeld.2.2.2.2.2.2.2.2.2.1) hHeld.2.2.2.2.2.2.2.2.2.2.1) hHeld.2.2.2.2.2.2.2.2.2.2.2.1) hHeld.2.2.2.2.2.2.2.2.2.2.2.2.1) hHeld.2.2.2.2.2.2.2.2.2.2.2.2.2
          have hst0_ := Aid.keep_eq hself_ hHeld.1
          have hst1_ := Aid.keep_eq hself_ hHeld.2.1
          have hst2_ := Aid.keep_eq hself_ hHeld.2.2.1
          have hst3_ := Aid.keep_eq hself_ hHeld.2.2.2.1
          have hst4_ := Aid.keep_eq hself_ hHeld.2.2.2.2.1
          have hst5_ := Aid.keep_eq hself_ hHeld.2.2.2.2.2.1
          have hst6_ := Aid.keep_eq hself_ hHeld.2.2.2.2.2.2.1
          have hst7_ := Aid.keep_eq hself_ hHeld.2.2.2.2.2.2.2.1
          have hst8_ := Aid.keep_eq hself_ hHeld.2.2.2.2.2.2.2.2.1
          have hst9_ := Aid.keep_eq hself_ hHeld.2.2.2.2.2.2.2.2.2.1
          have hst10_ := Aid.keep_eq hself_ hHeld.2.2.2.2.2.2.2.2.2.2.1
          have hst11_ := Aid.keep_eq hself_ hHeld.2.2.2.2.2.2.2.2.2.2.2.1
          have hst12_ := Aid.keep_eq hself_ hHeld.2.2.2.2.2.2.2.2.2.2.2.2.1
          have hst13_ := Aid.keep_eq hself_ hHeld.2.2.2.2.2.2.2.2.2.2.2.2.2
          clear hself_
          refine hK.out _ _ ⟨hst0_, hst1_, hst2_, hst3_, hst4_, hst5_, hst6_, hst7_, hst8_, hst9_, hst10_, hst11_, hst12_, hst13_⟩ (fun hHeld => ?_)
          clear hK K
          refine pure_ (i := 4) (N := some 4) (v := ?_) (a' := ?_) #[true, true, true, true, true] rfl rfl (by kernel_rfl) (fun _ _ _ h => h) (Or.inl ⟨by rfl, ?_⟩) ?_ ?_
          rotate_left
          · intro w'
            go_simp
            with_reducible rfl
          rotate_left
          · simp only [Act.put, List.setIfInBounds_toArray, List.set_cons_zero, List.set_cons_succ, i64_w, i32_w]
            rfl
          refine done_ (by kernel_rfl) ?_
          try go_wp2
          refine bodyPost_ret (results_list (rs := [.cell 2 37, .cell 3 37, .tmp 4]) rfl (by simp) (.cell gb128 37 #[.int .i64 t134, .int .i64 t135, .int .i64 t138, .int .i64 t139, .int .i64 t140, .int .i64 t141, .bool true] (0, 0) _ rfl (by (with_reducible repeat (first | refine blk_drewN ?_ _ | refine blk_drew ?_ | refine blk_alloc ?_ _)); refine blk_far ?_ NB128_129.out _; (with_reducible repeat (first | refine blk_drewN ?_ _ | refine blk_drew ?_ | refine blk_alloc ?_ _)); refine blk_far ?_ NB128_129.out _; (with_reducible repeat (first | refine blk_drewN ?_ _ | refine blk_drew ?_ | refine blk_alloc ?_ _)); refine blk_far ?_ NB128_129.out _; (with_reducible repeat (first | refine blk_drewN ?_ _ | refine blk_drew ?_ | refine blk_alloc ?_ _)); refine blk_far ?_ NB128_129.out _; (with_reducible repeat (first | refine blk_drewN ?_ _ | refine blk_drew ?_ | refine blk_alloc ?_ _)); refine blk_far ?_ NB128_129.out _; (with_reducible repeat (first | refine blk_drewN ?_ _ | refine blk_drew ?_ | refine blk_alloc ?_ _)); refine blk_far ?_ NB128_129.out _; (with_reducible repeat (first | refine blk_drewN ?_ _ | refine blk_drew ?_ | refine blk_alloc ?_ _)); refine blk_far ?_ NB128_129.out _; (with_reducible repeat (first | refine blk_drewN ?_ _ | refine blk_drew ?_ | refine blk_alloc ?_ _)); refine blk_put (cs := #[.int .i64 t134, .int .i64 t135, .int .i64 t138, .int .i64 t139, .int .i64 t140, .int .i64 t141, .bool true]) ?_ 6 _ rfl; (with_reducible repeat (first | refine blk_drewN ?_ _ | refine blk_drew ?_ | refine blk_alloc ?_ _)); refine blk_put (cs := #[.int .i64 t134, .int .i64 t135, .int .i64 t138, .int .i64 t139, .int .i64 t140, .int .i64 t141, .bool true]) ?_ 5 _ rfl; (with_reducible repeat (first | refine blk_drewN ?_ _ | refine blk_drew ?_ | refine blk_alloc ?_ _)); refine blk_put (cs := #[.int .i64 t134, .int .i64 t135, .int .i64 t138, .int .i64 t139, .int .i64 t140, .int .i64 t141, .bool true]) ?_ 4 _ rfl; (with_reducible repeat (first | refine blk_drewN ?_ _ | refine blk_drew ?_ | refine blk_alloc ?_ _)); refine blk_put (cs := #[.int .i64 t134, .int .i64 t135, .int .i64 t138, .int .i64 t139, .int .i64 t140, .int .i64 t141, .bool true]) ?_ 3 _ rfl; (with_reducible repeat (first | refine blk_drewN ?_ _ | refine blk_drew ?_ | refine blk_alloc ?_ _)); refine blk_put (cs := #[.int .i64 t134, .int .i64 t135, .int .i64 t138, .int .i64 t139, .int .i64 t140, .int .i64 t141, .bool true]) ?_ 2 _ rfl; (with_reducible repeat (first | refine blk_drewN ?_ _ | refine blk_drew ?_ | refine blk_alloc ?_ _)); refine blk_put (cs := #[.int .i64 t134, .int .i64 t135, .int .i64 t138, .int .i64 t139, .int .i64 t140, .int .i64 t141, .bool true]) ?_ 1 _ rfl; (with_reducible repeat (first | refine blk_drewN ?_ _ | refine blk_drew ?_ | refine blk_alloc ?_ _)); refine blk_put (cs := #[.int .i64 t134, .int .i64 t135, .int .i64 t138, .int .i64 t139, .int .i64 t140, .int .i64 t141, .bool true]) ?_ 0 _ rfl; (with_reducible repeat (first | refine blk_drewN ?_ _ | refine blk_drew ?_ | refine blk_alloc ?_ _)); exact BK128.out) Try.underlying37 rfl (by kernel_rfl) (.cell gb129 37 #[.int .i64 t140, .int .i64 t141, .int .i64 t142, .int .i64 t143, .int .i64 t136, .int .i64 t137, .bool true] (0, 0) _ rfl (by (with_reducible repeat (first | refine blk_drewN ?_ _ | refine blk_drew ?_ | refine blk_alloc ?_ _)); refine blk_put (cs := #[.int .i64 t140, .int .i64 t141, .int .i64 t142, .int .i64 t143, .int .i64 t136, .int .i64 t137, .bool true]) ?_ 6 _ rfl; (with_reducible repeat (first | refine blk_drewN ?_ _ | refine blk_drew ?_ | refine blk_alloc ?_ _)); refine blk_put (cs := #[.int .i64 t140, .int .i64 t141, .int .i64 t142, .int .i64 t143, .int .i64 t136, .int .i64 t137, .bool true]) ?_ 5 _ rfl; (with_reducible repeat (first | refine blk_drewN ?_ _ | refine blk_drew ?_ | refine blk_alloc ?_ _)); refine blk_put (cs := #[.int .i64 t140, .int .i64 t141, .int .i64 t142, .int .i64 t143, .int .i64 t136, .int .i64 t137, .bool true]) ?_ 4 _ rfl; (with_reducible repeat (first | refine blk_drewN ?_ _ | refine blk_drew ?_ | refine blk_alloc ?_ _)); refine blk_put (cs := #[.int .i64 t140, .int .i64 t141, .int .i64 t142, .int .i64 t143, .int .i64 t136, .int .i64 t137, .bool true]) ?_ 3 _ rfl; (with_reducible repeat (first | refine blk_drewN ?_ _ | refine blk_drew ?_ | refine blk_alloc ?_ _)); refine blk_put (cs := #[.int .i64 t140, .int .i64 t141, .int .i64 t142, .int .i64 t143, .int .i64 t136, .int .i64 t137, .bool true]) ?_ 2 _ rfl; (with_reducible repeat (first | refine blk_drewN ?_ _ | refine blk_drew ?_ | refine blk_alloc ?_ _)); refine blk_put (cs := #[.int .i64 t140, .int .i64 t141, .int .i64 t142, .int .i64 t143, .int .i64 t136, .int .i64 t137, .bool true]) ?_ 1 _ rfl; (with_reducible repeat (first | refine blk_drewN ?_ _ | refine blk_drew ?_ | refine blk_alloc ?_ _)); refine blk_put (cs := #[.int .i64 t140, .int .i64 t141, .int .i64 t142, .int .i64 t143, .int .i64 t136, .int .i64 t137, .bool true]) ?_ 0 _ rfl; (with_reducible repeat (first | refine blk_drewN ?_ _ | refine blk_drew ?_ | refine blk_alloc ?_ _)); refine blk_far ?_ NB129_128.out _; (with_reducible repeat (first | refine blk_drewN ?_ _ | refine blk_drew ?_ | refine blk_alloc ?_ _)); refine blk_far ?_ NB129_128.out _; (with_reducible repeat (first | refine blk_drewN ?_ _ | refine blk_drew ?_ | refine blk_alloc ?_ _)); refine blk_far ?_ NB129_128.out _; (with_reducible repeat (first | refine blk_drewN ?_ _ | refine blk_drew ?_ | refine blk_alloc ?_ _)); refine blk_far ?_ NB129_128.out _; (with_reducible repeat (first | refine blk_drewN ?_ _ | refine blk_drew ?_ | refine blk_alloc ?_ _)); refine blk_far ?_ NB129_128.out _; (with_reducible repeat (first | refine blk_drewN ?_ _ | refine blk_drew ?_ | refine blk_alloc ?_ _)); refine blk_far ?_ NB129_128.out _; (with_reducible repeat (first | refine blk_drewN ?_ _ | refine blk_drew ?_ | refine blk_alloc ?_ _)); refine blk_far ?_ NB129_128.out _; (with_reducible repeat (first | refine blk_drewN ?_ _ | refine blk_drew ?_ | refine blk_alloc ?_ _)); exact BK129.out) Try.underlying37 rfl (by kernel_rfl) (.tmp .nil)))) rfl ?_
          exact ⟨by first | rfl | (simp [errW_none, errW_some] <;> rfl) | (simp [*, errW_none, errW_some] <;> rfl), by repeat (first | (with_reducible first | exact HB.out | apply below_alloc | apply pw_below_drewN | apply below_drew1 | refine below_set ?_ GE127.out | refine below_set ?_ GE128.out | refine below_set ?_ GE129.out) | exact HB.out)⟩
        · replace c17 := Bool.eq_false_iff.mpr c17
          subst c17
          have H1 : ((quad_mix.f a0_0 a0_1 x128002_1 x128003_1 a0_4 a0_5 false 2 0 2).bind fun bt144 => (some (t134, t135, 0, 0, bt144.1, bt144.2, false, bt144.1, bt144.2, 0, 0, t136, t137, false, 0))) = some (r1, r2, r3, r4, r5, r6, r7, r8, r9, r10, r11, r12, r13, r14, r15) := by rw [if_neg (show ¬ (false = true) by decide)] at H; exact H
          clear H
          have H := H1
          clear H1
          replace H := Option.bind_eq_some_iff.mp H
          obtain ⟨⟨t144, t145⟩, A660, H⟩ := H
          replace H : (some (t134, t135, 0, 0, t144, t145, false, t144, t145, 0, 0, t136, t137, false, 0)) = some (r1, r2, r3, r4, r5, r6, r7, r8, r9, r10, r11, r12, r13, r14, r15) := H
          have A66 := Aside0.mk A660
          clear A660
          simp only [Option.some.injEq, Prod.mk.injEq] at H
          obtain ⟨rfl, rfl, rfl, rfl, rfl, rfl, rfl, rfl, rfl, rfl, rfl, rfl, rfl, rfl, rfl⟩ := H
          have hnb67 := NB127_128.out
          have hnc67 := NB128_127.out
          have hnb68 := NB127_129.out
          have hnc68 := NB129_127.out
          have hcz69_0 : wc.cell? ⟨gb127, 0, none⟩ = some (.int .i64 a0_0) := (blk_cell BK127.out 0).trans rfl
          have hcz69_1 : wc.cell? ⟨gb127, 1, none⟩ = some (.int .i64 a0_1) := (blk_cell BK127.out 1).trans rfl
          have hcz69_2 : wc.cell? ⟨gb127, 2, none⟩ = some (.int .i64 x128002_1) := (blk_cell BK127.out 2).trans rfl
          have hcz69_3 : wc.cell? ⟨gb127, 3, none⟩ = some (.int .i64 x128003_1) := (blk_cell BK127.out 3).trans rfl
          have hcz69_4 : wc.cell? ⟨gb127, 4, none⟩ = some (.int .i64 a0_4) := (blk_cell BK127.out 4).trans rfl
          have hcz69_5 : wc.cell? ⟨gb127, 5, none⟩ = some (.int .i64 a0_5) := (blk_cell BK127.out 5).trans rfl
          have hcz69_6 : wc.cell? ⟨gb127, 6, none⟩ = some (.bool false) := (blk_cell BK127.out 6).trans rfl
          have hfz69_0 := blk_frozen BK127.out 0
          have hfz69_1 := blk_frozen BK127.out 1
          have hfz69_2 := blk_frozen BK127.out 2
          have hfz69_3 := blk_frozen BK127.out 3
          have hfz69_4 := blk_frozen BK127.out 4
          have hfz69_5 := blk_frozen BK127.out 5
          have hfz69_6 := blk_frozen BK127.out 6
          try go_wp2_with (first | ((with_reducible refine gate_dst (N := 16) rfl ?_); refine Kd.R_lit k33 _ 33 ?hg (N := 16) ?hd (xs := ([(⟨a0_0, a0_1⟩ : S33), (⟨a0_4, a0_5⟩ : S33), (⟨x128002_1, x128003_1⟩ : S33)] : List (S33))) (inner := [.int .i64 a0_0, .int .i64 a0_1, .int .i64 a0_4, .int .i64 a0_5, .int .i64 x128002_1, .int .i64 x128003_1]) (ok := fun _ => True) (okp := fun _ => True) ?hr ?hp (fun _ hk => hk) trivial (Below.refl _ _) (Nat.le_refl _) (by simp) ?_; (case hd => rfl); (case hg => rfl); (case hr => first | (go_simp; done) | (go_simp; rfl)); (case hp => exact (Reps.c2 (show Kd.M k33 _ _ _ (⟨a0_0, a0_1⟩ : S33) [.int .i64 a0_0, .int .i64 a0_1] from (k33_mkM _ _ _ (⟨a0_0, a0_1⟩ : S33) )) (Reps.c2 (show Kd.M k33 _ _ _ (⟨a0_4, a0_5⟩ : S33) [.int .i64 a0_4, .int .i64 a0_5] from (k33_mkM _ _ _ (⟨a0_4, a0_5⟩ : S33) )) (Reps.c2 (show Kd.M k33 _ _ _ (⟨x128002_1, x128003_1⟩ : S33) [.int .i64 x128002_1, .int .i64 x128003_1] from (k33_mkM _ _ _ (⟨x128002_1, x128003_1⟩ : S33) )) (Reps.none _ _))))); intro v131 w70 ho71 hb hg_ hnew_; clear hg_ hnew_; (first | rw [← Ny130.out] at ho71 | (simp only [Int.reduceToNat] at ho71; rw [← Ny130.out] at ho71)); have n0_ := Aside0.mk (Kd.R_lower ho71 (below_size (by repeat (first | (with_reducible first | exact HB.out | apply below_alloc | apply pw_below_drewN | apply below_drew1 | refine below_set ?_ GE127.out | refine below_set ?_ GE128.out | refine below_set ?_ GE129.out) | exact HB.out)))); have n1_ := Aside0.mk (blk_below (g := gb127) (o := .cells #[.int .i64 a0_0, .int .i64 a0_1, .int .i64 x128002_1, .int .i64 x128003_1, .int .i64 a0_4, .int .i64 a0_5, .bool false] 37 (0, 0)) (by (with_reducible repeat (first | refine blk_drewN ?_ _ | refine blk_drew ?_ | refine blk_alloc ?_ _)); exact BK127.out) hb); have n2_ := Aside0.mk (blk_below (g := gb128) (o := .cells #[.int .i64 0, .int .i64 0, .int .i64 0, .int .i64 0, .int .i64 0, .int .i64 0, .bool false] 37 (0, 0)) (by (with_reducible repeat (first | refine blk_drewN ?_ _ | refine blk_drew ?_ | refine blk_alloc ?_ _)); exact BK128.out) hb); have n3_ := Aside0.mk (blk_below (g := gb129) (o := .cells #[.int .i64 0, .int .i64 0, .int .i64 0, .int .i64 0, .int .i64 0, .int .i64 0, .bool false] 37 (0, 0)) (by (with_reducible repeat (first | refine blk_drewN ?_ _ | refine blk_drew ?_ | refine blk_alloc ?_ _)); exact BK129.out) hb); have n4_ := Aside0.mk (below_step (by repeat (first | (with_reducible first | exact HB.out | apply below_alloc | apply pw_below_drewN | apply below_drew1 | refine below_set ?_ GE127.out | refine below_set ?_ GE128.out | refine below_set ?_ GE129.out) | exact HB.out)) hb); clear BK127; clear BK128; clear BK129; clear HB; have HO132 := n0_; have BK127 := n1_; have BK128 := n2_; have BK129 := n3_; have HB := n4_; clear n0_ n1_ n2_ n3_ n4_; clear hb ho71; obtain ⟨Ao72, co72, eo72⟩ := Kd.R_slice HO132.out; subst eo72) | ((with_reducible refine gate_callee (f := 58) rfl ?_); refine goesL_ (some 17) rfl rfl Try.func58 (by kernel_rfl) rfl #[.slice Ao72 y130.length co72] rfl (by (try simp only [List.map_toArray, List.map_cons, List.map_nil]); first | done | rfl | (simp only [List.length_drop, List.length_take]; rfl)) ?_; (with_reducible refine (quad_near.calls kj1 _ _ y130 true _ ?side1 ?side2 A13.out).mono ?_); (case side1 => repeat (first | exact (Kd.R_reads' HO132.out).2.2 | (with_reducible refine Kd.C_alloc ?_ _) | (with_reducible refine Kd.C_drewN ?_ _) | (with_reducible refine Kd.C_drew ?_))); (case side2 => exact (Kd.R_reads' HO132.out).2.1); rintro e w73 ⟨rfl, hb⟩; refine ⟨_, rfl, ?_⟩; have n0_ := Aside0.mk (Kd.R_below (by (with_reducible repeat (first | apply Kd.R_alloc | apply Kd.R_drewN | apply Kd.R_drew)); exact HO132.out) hb); have n1_ := Aside0.mk (blk_below (g := gb127) (o := .cells #[.int .i64 a0_0, .int .i64 a0_1, .int .i64 x128002_1, .int .i64 x128003_1, .int .i64 a0_4, .int .i64 a0_5, .bool false] 37 (0, 0)) (by (with_reducible repeat (first | refine blk_drewN ?_ _ | refine blk_drew ?_ | refine blk_alloc ?_ _)); exact BK127.out) hb); have n2_ := Aside0.mk (blk_below (g := gb128) (o := .cells #[.int .i64 0, .int .i64 0, .int .i64 0, .int .i64 0, .int .i64 0, .int .i64 0, .bool false] 37 (0, 0)) (by (with_reducible repeat (first | refine blk_drewN ?_ _ | refine blk_drew ?_ | refine blk_alloc ?_ _)); exact BK128.out) hb); have n3_ := Aside0.mk (blk_below (g := gb129) (o := .cells #[.int .i64 0, .int .i64 0, .int .i64 0, .int .i64 0, .int .i64 0, .int .i64 0, .bool false] 37 (0, 0)) (by (with_reducible repeat (first | refine blk_drewN ?_ _ | refine blk_drew ?_ | refine blk_alloc ?_ _)); exact BK129.out) hb); have n4_ := Aside0.mk (below_step (by repeat (first | (with_reducible first | exact HB.out | apply below_alloc | apply pw_below_drewN | apply below_drew1 | refine below_set ?_ GE127.out | refine below_set ?_ GE128.out | refine below_set ?_ GE129.out) | exact HB.out)) hb); clear HO132; clear BK127; clear BK128; clear BK129; clear HB; have HO132 := n0_; have BK127 := n1_; have BK128 := n2_; have BK129 := n3_; have HB := n4_; clear n0_ n1_ n2_ n3_ n4_; (try clear hb); (try clear hb2); (try clear hk); (try clear hi)))
          have n0_ := Aside0.mk (Kd.R_drew HO132.out)
          have n1_ := Aside0.mk (blk_drew BK127.out)
          have n2_ := Aside0.mk (blk_drew BK128.out)
          have n3_ := Aside0.mk (blk_drew BK129.out)
          have n4_ := Aside0.mk (below_drew1 HB.out)
          clear HO132
          clear BK127
          clear BK128
          clear BK129
          clear HB
          have HO132 := n0_
          have BK127 := n1_
          have BK128 := n2_
          have BK129 := n3_
          have HB := n4_
          clear n0_ n1_ n2_ n3_ n4_
          refine start_ (n := 8) (S := fun w' => w'.cell? ⟨gb127, 0, none⟩ = some (.int .i64 a0_0) ∧ w'.cell? ⟨gb127, 1, none⟩ = some (.int .i64 a0_1) ∧ w'.cell? ⟨gb127, 2, none⟩ = some (.int .i64 x128002_1) ∧ w'.cell? ⟨gb127, 3, none⟩ = some (.int .i64 x128003_1) ∧ w'.cell? ⟨gb127, 4, none⟩ = some (.int .i64 a0_4) ∧ w'.cell? ⟨gb127, 5, none⟩ = some (.int .i64 a0_5) ∧ w'.cell? ⟨gb127, 6, none⟩ = some (.bool false)) (ds := []) #[false, false, false, false, false, false, false, false] (by kernel_rfl) rfl rfl ⟨(blk_cell BK127.out 0).trans rfl, (blk_cell BK127.out 1).trans rfl, (blk_cell BK127.out 2).trans rfl, (blk_cell BK127.out 3).trans rfl, (blk_cell BK127.out 4).trans rfl, (blk_cell BK127.out 5).trans rfl, (blk_cell BK127.out 6).trans rfl⟩ (fun hHeld => ?_); refine with_tabW quad_Split.tab5 quad_Split.bits5 (fun HT_ HW_ => ?_)
          generalize w73.drew = w74 at HO132 BK127 BK128 BK129 HB hHeld ⊢
          refine take_ (i := 0) (N := some 21) (v := ?_) (a' := ?_) #[true, false, false, false, false, false, false, false] rfl rfl (take_ofW HT_.out HW_.out (by kernel_rfl)) (fun _ _ _ h => h) (Or.inl ⟨by rfl, ?_⟩) hHeld ?_ ?_
          rotate_left
          · rintro w' ⟨s0, s1, s2, s3, s4, s5, s6⟩
            go_simp
            with_reducible rfl
          rotate_left
          · simp only [Act.put, List.setIfInBounds_toArray, List.set_cons_zero, List.set_cons_succ, i64_w, i32_w]
            rfl
          refine take_ (i := 2) (N := some 23) (v := ?_) (a' := ?_) #[true, false, true, false, false, false, false, false] rfl rfl (take_ofW HT_.out HW_.out (by kernel_rfl)) (fun _ _ _ h => h) (Or.inl ⟨by rfl, ?_⟩) hHeld ?_ ?_
          rotate_left
          · rintro w' ⟨s0, s1, s2, s3, s4, s5, s6⟩
            go_simp
            with_reducible rfl
          rotate_left
          · simp only [Act.put, List.setIfInBounds_toArray, List.set_cons_zero, List.set_cons_succ, i64_w, i32_w]
            rfl
          refine one_ (i := 1) (N := some 22) #[true, true, true, false, false, false, false, false] rfl rfl (one_of HT_.out (by kernel_rfl)) (by decide) (fun K hK => ?_)
          refine goes_ Try.func53 (by kernel_rfl) rfl #[.agg #[.int .i64 a0_0, .int .i64 a0_1, .int .i64 x128002_1, .int .i64 x128003_1, .int .i64 a0_4, .int .i64 a0_5, .bool false], .int .i64 4, .int .i64 0, .int .i64 0] (by rfl) rfl rfl (by (try simp only [List.map_toArray, List.map_cons, List.map_nil]); first | done | rfl | (simp only [List.length_drop, List.length_take]; rfl)) ?_
          with_reducible refine (quad_mix.calls a0_0 a0_1 x128002_1 x128003_1 a0_4 a0_5 false 4 0 0 t134 t135 _ A15.out).mono ?_
          rintro e w75 ⟨rfl, hb⟩
          refine ⟨_, rfl, ?_⟩
          have n0_ := Aside0.mk (Kd.R_below (by (with_reducible repeat (first | apply Kd.R_alloc | apply Kd.R_drewN | apply Kd.R_drew)); exact HO132.out) hb)
          have n1_ := Aside0.mk (blk_below (g := gb127) (o := .cells #[.int .i64 a0_0, .int .i64 a0_1, .int .i64 x128002_1, .int .i64 x128003_1, .int .i64 a0_4, .int .i64 a0_5, .bool false] 37 (0, 0)) (by (with_reducible repeat (first | refine blk_drewN ?_ _ | refine blk_drew ?_ | refine blk_alloc ?_ _)); exact BK127.out) hb)
          have n2_ := Aside0.mk (blk_below (g := gb128) (o := .cells #[.int .i64 0, .int .i64 0, .int .i64 0, .int .i64 0, .int .i64 0, .int .i64 0, .bool false] 37 (0, 0)) (by (with_reducible repeat (first | refine blk_drewN ?_ _ | refine blk_drew ?_ | refine blk_alloc ?_ _)); exact BK128.out) hb)
          have n3_ := Aside0.mk (blk_below (g := gb129) (o := .cells #[.int .i64 0, .int .i64 0, .int .i64 0, .int .i64 0, .int .i64 0, .int .i64 0, .bool false] 37 (0, 0)) (by (with_reducible repeat (first | refine blk_drewN ?_ _ | refine blk_drew ?_ | refine blk_alloc ?_ _)); exact BK129.out) hb)
          have n4_ := Aside0.mk (below_step (by repeat (first | (with_reducible first | exact HB.out | apply below_alloc | apply pw_below_drewN | apply below_drew1 | refine below_set ?_ GE127.out | refine below_set ?_ GE128.out | refine below_set ?_ GE129.out) | exact HB.out)) hb)
          clear HO132
          clear BK127
          clear BK128
          clear BK129
          clear HB
          have HO132 := n0_
          have BK127 := n1_
          have BK128 := n2_
          have BK129 := n3_
          have HB := n4_
          clear n0_ n1_ n2_ n3_ n4_
          (try clear hb)
          (try clear hb2)
          (try clear hk)
          (try clear hi)
          refine hK.out _ _ ⟨(blk_cell BK127.out 0).trans rfl, (blk_cell BK127.out 1).trans rfl, (blk_cell BK127.out 2).trans rfl, (blk_cell BK127.out 3).trans rfl, (blk_cell BK127.out 4).trans rfl, (blk_cell BK127.out 5).trans rfl, (blk_cell BK127.out 6).trans rfl⟩ (fun hHeld => ?_)
          clear hK K
          refine norm_ (a' := ?_) ?_ ?_
          rotate_left
          · show Act.put _ (some 22) _ = _
            simp only [Act.put, List.setIfInBounds_toArray, List.set_cons_zero, List.set_cons_succ, i64_w, i32_w]
            rfl
          refine pure_ (i := 4) (N := some 25) (v := ?_) (a' := ?_) #[true, true, true, false, true, false, false, false] rfl rfl (any_of HT_.out (by kernel_rfl)) (fun _ _ _ h => h) (Or.inl ⟨by rfl, ?_⟩) ?_ ?_
          rotate_left
          · intro w'
            go_simp
            with_reducible rfl
          rotate_left
          · simp only [Act.put, List.setIfInBounds_toArray, List.set_cons_zero, List.set_cons_succ, i64_w, i32_w]
            rfl
          refine one_ (i := 3) (N := some 24) #[true, true, true, true, true, false, false, false] rfl rfl (one_of HT_.out (by kernel_rfl)) (by decide) (fun K hK => ?_)
          refine goes_ Try.func53 (by kernel_rfl) rfl #[.agg #[.int .i64 a0_0, .int .i64 a0_1, .int .i64 x128002_1, .int .i64 x128003_1, .int .i64 a0_4, .int .i64 a0_5, .bool false], .int .i64 0, .int .i64 0, .int .i64 4] (by rfl) rfl rfl (by (try simp only [List.map_toArray, List.map_cons, List.map_nil]); first | done | rfl | (simp only [List.length_drop, List.length_take]; rfl)) ?_
          with_reducible refine (quad_mix.calls a0_0 a0_1 x128002_1 x128003_1 a0_4 a0_5 false 0 0 4 t136 t137 _ A16.out).mono ?_
          rintro e w76 ⟨rfl, hb⟩
          refine ⟨_, rfl, ?_⟩
          have n0_ := Aside0.mk (Kd.R_below (by (with_reducible repeat (first | apply Kd.R_alloc | apply Kd.R_drewN | apply Kd.R_drew)); exact HO132.out) hb)
          have n1_ := Aside0.mk (blk_below (g := gb127) (o := .cells #[.int .i64 a0_0, .int .i64 a0_1, .int .i64 x128002_1, .int .i64 x128003_1, .int .i64 a0_4, .int .i64 a0_5, .bool false] 37 (0, 0)) (by (with_reducible repeat (first | refine blk_drewN ?_ _ | refine blk_drew ?_ | refine blk_alloc ?_ _)); exact BK127.out) hb)
          have n2_ := Aside0.mk (blk_below (g := gb128) (o := .cells #[.int .i64 0, .int .i64 0, .int .i64 0, .int .i64 0, .int .i64 0, .int .i64 0, .bool false] 37 (0, 0)) (by (with_reducible repeat (first | refine blk_drewN ?_ _ | refine blk_drew ?_ | refine blk_alloc ?_ _)); exact BK128.out) hb)
          have n3_ := Aside0.mk (blk_below (g := gb129) (o := .cells #[.int .i64 0, .int .i64 0, .int .i64 0, .int .i64 0, .int .i64 0, .int .i64 0, .bool false] 37 (0, 0)) (by (with_reducible repeat (first | refine blk_drewN ?_ _ | refine blk_drew ?_ | refine blk_alloc ?_ _)); exact BK129.out) hb)
          have n4_ := Aside0.mk (below_step (by repeat (first | (with_reducible first | exact HB.out | apply below_alloc | apply pw_below_drewN | apply below_drew1 | refine below_set ?_ GE127.out | refine below_set ?_ GE128.out | refine below_set ?_ GE129.out) | exact HB.out)) hb)
          clear HO132
          clear BK127
          clear BK128
          clear BK129
          clear HB
          have HO132 := n0_
          have BK127 := n1_
          have BK128 := n2_
          have BK129 := n3_
          have HB := n4_
          clear n0_ n1_ n2_ n3_ n4_
          (try clear hb)
          (try clear hb2)
          (try clear hk)
          (try clear hi)
          refine hK.out _ _ ⟨(blk_cell BK127.out 0).trans rfl, (blk_cell BK127.out 1).trans rfl, (blk_cell BK127.out 2).trans rfl, (blk_cell BK127.out 3).trans rfl, (blk_cell BK127.out 4).trans rfl, (blk_cell BK127.out 5).trans rfl, (blk_cell BK127.out 6).trans rfl⟩ (fun hHeld => ?_)
          clear hK K
          refine norm_ (a' := ?_) ?_ ?_
          rotate_left
          · show Act.put _ (some 24) _ = _
            simp only [Act.put, List.setIfInBounds_toArray, List.set_cons_zero, List.set_cons_succ, i64_w, i32_w]
            rfl
          refine one_ (i := 5) (N := none) #[true, true, true, true, true, true, false, false] rfl rfl (one_of HT_.out (by kernel_rfl)) (by decide) (fun K hK => ?_)
          have hs77 : w76.cell? ⟨gb128, 0, none⟩ = some (.int .i64 0) := (blk_cell BK128.out 0).trans rfl
          have hfs77 := blk_frozen BK128.out 0
          have hns77_0 := NB127_128.out
          have hns77_2 := NB129_128.out
          have hms77_0 := NB128_127.out
          have hms77_2 := NB128_129.out
          have hs78 : w76.cell? ⟨gb128, 1, none⟩ = some (.int .i64 0) := (blk_cell BK128.out 1).trans rfl
          have hfs78 := blk_frozen BK128.out 1
          have hns78_0 := NB127_128.out
          have hns78_2 := NB129_128.out
          have hms78_0 := NB128_127.out
          have hms78_2 := NB128_129.out
          refine skip_ (w1 := ?_) ?_ ?_ ?_ ?_
          rotate_left
          · rfl
          · rfl
          · go_simp
            rfl
          clear hs77 hfs77 hns77_0 hns77_2 hms77_0 hms77_2 hs78 hfs78 hns78_0 hns78_2 hms78_0 hms78_2
          refine hK.out _ _ ⟨((cell_far (p := ⟨gb128, _, none⟩) NB127_128.out _).trans (((cell_far (p := ⟨gb128, _, none⟩) NB127_128.out _).trans (hHeld.1)))), ((cell_far (p := ⟨gb128, _, none⟩) NB127_128.out _).trans (((cell_far (p := ⟨gb128, _, none⟩) NB127_128.out _).trans (hHeld.2.1)))), ((cell_far (p := ⟨gb128, _, none⟩) NB127_128.out _).trans (((cell_far (p := ⟨gb128, _, none⟩) NB127_128.out _).trans (hHeld.2.2.1)))), ((cell_far (p := ⟨gb128, _, none⟩) NB127_128.out _).trans (((cell_far (p := ⟨gb128, _, none⟩) NB127_128.out _).trans (hHeld.2.2.2.1)))), ((cell_far (p := ⟨gb128, _, none⟩) NB127_128.out _).trans (((cell_far (p := ⟨gb128, _, none⟩) NB127_128.out _).trans (hHeld.2.2.2.2.1)))), ((cell_far (p := ⟨gb128, _, none⟩) NB127_128.out _).trans (((cell_far (p := ⟨gb128, _, none⟩) NB127_128.out _).trans (hHeld.2.2.2.2.2.1)))), ((cell_far (p := ⟨gb128, _, none⟩) NB127_128.out _).trans (((cell_far (p := ⟨gb128, _, none⟩) NB127_128.out _).trans (hHeld.2.2.2.2.2.2))))⟩ (fun hHeld => ?_)
          clear hK K
          refine pure_ (i := 6) (N := some 26) (v := ?_) (a' := ?_) #[true, true, true, true, true, true, true, false] rfl rfl (any_of HT_.out (by kernel_rfl)) (fun _ _ _ h => h) (Or.inl ⟨by rfl, ?_⟩) ?_ ?_
          rotate_left
          · intro w'
            go_simp
            with_reducible rfl
          rotate_left
          · simp only [Act.put, List.setIfInBounds_toArray, List.set_cons_zero, List.set_cons_succ, i64_w, i32_w]
            rfl
          refine one_ (i := 7) (N := none) #[true, true, true, true, true, true, true, true] rfl rfl (one_of HT_.out (by kernel_rfl)) (by decide) (fun K hK => ?_)
          have hs79 : w76.cell? ⟨gb129, 4, none⟩ = some (.int .i64 0) := (blk_cell BK129.out 4).trans rfl
          have hfs79 := blk_frozen BK129.out 4
          have hns79_0 := NB127_129.out
          have hns79_1 := NB128_129.out
          have hms79_0 := NB129_127.out
          have hms79_1 := NB129_128.out
          have hs80 : w76.cell? ⟨gb129, 5, none⟩ = some (.int .i64 0) := (blk_cell BK129.out 5).trans rfl
          have hfs80 := blk_frozen BK129.out 5
          have hns80_0 := NB127_129.out
          have hns80_1 := NB128_129.out
          have hms80_0 := NB129_127.out
          have hms80_1 := NB129_128.out
          refine skip_ (w1 := ?_) ?_ ?_ ?_ ?_
          rotate_left
          · rfl
          · rfl
          · go_simp
            rfl
          clear hs79 hfs79 hns79_0 hns79_1 hms79_0 hms79_1 hs80 hfs80 hns80_0 hns80_1 hms80_0 hms80_1
          refine hK.out _ _ ⟨((cell_far (p := ⟨gb129, _, none⟩) NB127_129.out _).trans (((cell_far (p := ⟨gb129, _, none⟩) NB127_129.out _).trans (hHeld.1)))), ((cell_far (p := ⟨gb129, _, none⟩) NB127_129.out _).trans (((cell_far (p := ⟨gb129, _, none⟩) NB127_129.out _).trans (hHeld.2.1)))), ((cell_far (p := ⟨gb129, _, none⟩) NB127_129.out _).trans (((cell_far (p := ⟨gb129, _, none⟩) NB127_129.out _).trans (hHeld.2.2.1)))), ((cell_far (p := ⟨gb129, _, none⟩) NB127_129.out _).trans (((cell_far (p := ⟨gb129, _, none⟩) NB127_129.out _).trans (hHeld.2.2.2.1)))), ((cell_far (p := ⟨gb129, _, none⟩) NB127_129.out _).trans (((cell_far (p := ⟨gb129, _, none⟩) NB127_129.out _).trans (hHeld.2.2.2.2.1)))), ((cell_far (p := ⟨gb129, _, none⟩) NB127_129.out _).trans (((cell_far (p := ⟨gb129, _, none⟩) NB127_129.out _).trans (hHeld.2.2.2.2.2.1)))), ((cell_far (p := ⟨gb129, _, none⟩) NB127_129.out _).trans (((cell_far (p := ⟨gb129, _, none⟩) NB127_129.out _).trans (hHeld.2.2.2.2.2.2))))⟩ (fun hHeld => ?_)
          clear hK K
          refine done_ (done_of HT_.out (by kernel_rfl)) ?_
          have hcz81_0 : w76.cell? ⟨gb127, 0, none⟩ = some (.int .i64 a0_0) := (blk_cell BK127.out 0).trans rfl
          have hcz81_1 : w76.cell? ⟨gb127, 1, none⟩ = some (.int .i64 a0_1) := (blk_cell BK127.out 1).trans rfl
          have hcz81_2 : w76.cell? ⟨gb127, 2, none⟩ = some (.int .i64 x128002_1) := (blk_cell BK127.out 2).trans rfl
          have hcz81_3 : w76.cell? ⟨gb127, 3, none⟩ = some (.int .i64 x128003_1) := (blk_cell BK127.out 3).trans rfl
          have hcz81_4 : w76.cell? ⟨gb127, 4, none⟩ = some (.int .i64 a0_4) := (blk_cell BK127.out 4).trans rfl
          have hcz81_5 : w76.cell? ⟨gb127, 5, none⟩ = some (.int .i64 a0_5) := (blk_cell BK127.out 5).trans rfl
          have hcz81_6 : w76.cell? ⟨gb127, 6, none⟩ = some (.bool false) := (blk_cell BK127.out 6).trans rfl
          have hfz81_0 := blk_frozen BK127.out 0
          have hfz81_1 := blk_frozen BK127.out 1
          have hfz81_2 := blk_frozen BK127.out 2
          have hfz81_3 := blk_frozen BK127.out 3
          have hfz81_4 := blk_frozen BK127.out 4
          have hfz81_5 := blk_frozen BK127.out 5
          have hfz81_6 := blk_frozen BK127.out 6
          try go_wp2_with (first | ((with_reducible refine gate_callee (f := 53) rfl ?_); refine goesL_ (some 31) rfl rfl Try.func53 (by kernel_rfl) rfl #[.agg #[.int .i64 a0_0, .int .i64 a0_1, .int .i64 x128002_1, .int .i64 x128003_1, .int .i64 a0_4, .int .i64 a0_5, .bool false], .int .i64 2, .int .i64 0, .int .i64 2] rfl (by (try simp only [List.map_toArray, List.map_cons, List.map_nil]); first | done | rfl | (simp only [List.length_drop, List.length_take]; rfl)) ?_; (with_reducible refine (quad_mix.calls a0_0 a0_1 x128002_1 x128003_1 a0_4 a0_5 false 2 0 2 t144 t145 _ A66.out).mono ?_); rintro e w82 ⟨rfl, hb⟩; refine ⟨_, rfl, ?_⟩; have n0_ := Aside0.mk (Kd.R_below (by (with_reducible repeat (first | apply Kd.R_alloc | apply Kd.R_drewN | apply Kd.R_drew)); exact (Kd.R_mono (Kd.R_mono (Kd.R_far (p := ⟨gb129, 5, none⟩) (Kd.R_far (p := ⟨gb129, 4, none⟩) (Kd.R_far (p := ⟨gb128, 1, none⟩) (Kd.R_far (p := ⟨gb128, 0, none⟩) (Kd.R_types (Kd.R_types HO132.out BK128.out (by decide)) BK129.out (by decide)) (fun _ hk => hk.1.2) (.int .i64 t134)) (fun _ hk => hk.1.2) (.int .i64 t135)) (fun _ hk => hk.2) (.int .i64 t136)) (fun _ hk => hk.2) (.int .i64 t137)) (fun _ h_ => h_.1)) (fun _ h_ => h_.1))) hb); have n1_ := Aside0.mk (blk_below (g := gb127) (o := .cells #[.int .i64 a0_0, .int .i64 a0_1, .int .i64 x128002_1, .int .i64 x128003_1, .int .i64 a0_4, .int .i64 a0_5, .bool false] 37 (0, 0)) (by (with_reducible repeat (first | refine blk_drewN ?_ _ | refine blk_drew ?_ | refine blk_alloc ?_ _)); refine blk_far ?_ NB127_129.out _; (with_reducible repeat (first | refine blk_drewN ?_ _ | refine blk_drew ?_ | refine blk_alloc ?_ _)); refine blk_far ?_ NB127_129.out _; (with_reducible repeat (first | refine blk_drewN ?_ _ | refine blk_drew ?_ | refine blk_alloc ?_ _)); refine blk_far ?_ NB127_128.out _; (with_reducible repeat (first | refine blk_drewN ?_ _ | refine blk_drew ?_ | refine blk_alloc ?_ _)); refine blk_far ?_ NB127_128.out _; (with_reducible repeat (first | refine blk_drewN ?_ _ | refine blk_drew ?_ | refine blk_alloc ?_ _)); exact BK127.out) hb); have n2_ := Aside0.mk (blk_below (g := gb128) (o := .cells #[.int .i64 t134, .int .i64 t135, .int .i64 0, .int .i64 0, .int .i64 0, .int .i64 0, .bool false] 37 (0, 0)) (by (with_reducible repeat (first | refine blk_drewN ?_ _ | refine blk_drew ?_ | refine blk_alloc ?_ _)); refine blk_far ?_ NB128_129.out _; (with_reducible repeat (first | refine blk_drewN ?_ _ | refine blk_drew ?_ | refine blk_alloc ?_ _)); refine blk_far ?_ NB128_129.out _; (with_reducible repeat (first | refine blk_drewN ?_ _ | refine blk_drew ?_ | refine blk_alloc ?_ _)); refine blk_put (cs := #[.int .i64 t134, .int .i64 0, .int .i64 0, .int .i64 0, .int .i64 0, .int .i64 0, .bool false]) ?_ 1 _ rfl; (with_reducible repeat (first | refine blk_drewN ?_ _ | refine blk_drew ?_ | refine blk_alloc ?_ _)); refine blk_put (cs := #[.int .i64 0, .int .i64 0, .int .i64 0, .int .i64 0, .int .i64 0, .int .i64 0, .bool false]) ?_ 0 _ rfl; (with_reducible repeat (first | refine blk_drewN ?_ _ | refine blk_drew ?_ | refine blk_alloc ?_ _)); exact BK128.out) hb); have n3_ := Aside0.mk (blk_below (g := gb129) (o := .cells #[.int .i64 0, .int .i64 0, .int .i64 0, .int .i64 0, .int .i64 t136, .int .i64 t137, .bool false] 37 (0, 0)) (by (with_reducible repeat (first | refine blk_drewN ?_ _ | refine blk_drew ?_ | refine blk_alloc ?_ _)); refine blk_put (cs := #[.int .i64 0, .int .i64 0, .int .i64 0, .int .i64 0, .int .i64 t136, .int .i64 0, .bool false]) ?_ 5 _ rfl; (with_reducible repeat (first | refine blk_drewN ?_ _ | refine blk_drew ?_ | refine blk_alloc ?_ _)); refine blk_put (cs := #[.int .i64 0, .int .i64 0, .int .i64 0, .int .i64 0, .int .i64 0, .int .i64 0, .bool false]) ?_ 4 _ rfl; (with_reducible repeat (first | refine blk_drewN ?_ _ | refine blk_drew ?_ | refine blk_alloc ?_ _)); refine blk_far ?_ NB129_128.out _; (with_reducible repeat (first | refine blk_drewN ?_ _ | refine blk_drew ?_ | refine blk_alloc ?_ _)); refine blk_far ?_ NB129_128.out _; (with_reducible repeat (first | refine blk_drewN ?_ _ | refine blk_drew ?_ | refine blk_alloc ?_ _)); exact BK129.out) hb); have n4_ := Aside0.mk (below_step (by repeat (first | (with_reducible first | exact HB.out | apply below_alloc | apply pw_below_drewN | apply below_drew1 | refine below_set ?_ GE127.out | refine below_set ?_ GE128.out | refine below_set ?_ GE129.out) | exact HB.out)) hb); clear HO132; clear BK127; clear BK128; clear BK129; clear HB; have HO132 := n0_; have BK127 := n1_; have BK128 := n2_; have BK129 := n3_; have HB := n4_; clear n0_ n1_ n2_ n3_ n4_; (try clear hb); (try clear hb2); (try clear hk); (try clear hi); have hnb83 := NB128_129.out; have hnc83 := NB129_128.out; have hcz84_0 : w82.cell? ⟨gb128, 0, none⟩ = some (.int .i64 t134) := (blk_cell BK128.out 0).trans rfl; have hcz84_1 : w82.cell? ⟨gb128, 1, none⟩ = some (.int .i64 t135) := (blk_cell BK128.out 1).trans rfl; have hcz84_2 : w82.cell? ⟨gb128, 2, none⟩ = some (.int .i64 0) := (blk_cell BK128.out 2).trans rfl; have hcz84_3 : w82.cell? ⟨gb128, 3, none⟩ = some (.int .i64 0) := (blk_cell BK128.out 3).trans rfl; have hcz84_4 : w82.cell? ⟨gb128, 4, none⟩ = some (.int .i64 0) := (blk_cell BK128.out 4).trans rfl; have hcz84_5 : w82.cell? ⟨gb128, 5, none⟩ = some (.int .i64 0) := (blk_cell BK128.out 5).trans rfl; have hcz84_6 : w82.cell? ⟨gb128, 6, none⟩ = some (.bool false) := (blk_cell BK128.out 6).trans rfl; have hfz84_0 := blk_frozen BK128.out 0; have hfz84_1 := blk_frozen BK128.out 1; have hfz84_2 := blk_frozen BK128.out 2; have hfz84_3 := blk_frozen BK128.out 3; have hfz84_4 := blk_frozen BK128.out 4; have hfz84_5 := blk_frozen BK128.out 5; have hfz84_6 := blk_frozen BK128.out 6; have hcz85_0 : w82.cell? ⟨gb129, 0, none⟩ = some (.int .i64 0) := (blk_cell BK129.out 0).trans rfl; have hcz85_1 : w82.cell? ⟨gb129, 1, none⟩ = some (.int .i64 0) := (blk_cell BK129.out 1).trans rfl; have hcz85_2 : w82.cell? ⟨gb129, 2, none⟩ = some (.int .i64 0) := (blk_cell BK129.out 2).trans rfl; have hcz85_3 : w82.cell? ⟨gb129, 3, none⟩ = some (.int .i64 0) := (blk_cell BK129.out 3).trans rfl; have hcz85_4 : w82.cell? ⟨gb129, 4, none⟩ = some (.int .i64 t136) := (blk_cell BK129.out 4).trans rfl; have hcz85_5 : w82.cell? ⟨gb129, 5, none⟩ = some (.int .i64 t137) := (blk_cell BK129.out 5).trans rfl; have hcz85_6 : w82.cell? ⟨gb129, 6, none⟩ = some (.bool false) := (blk_cell BK129.out 6).trans rfl; have hfz85_0 := blk_frozen BK129.out 0; have hfz85_1 := blk_frozen BK129.out 1; have hfz85_2 := blk_frozen BK129.out 2; have hfz85_3 := blk_frozen BK129.out 3; have hfz85_4 := blk_frozen BK129.out 4; have hfz85_5 := blk_frozen BK129.out 5; have hfz85_6 := blk_frozen BK129.out 6))
          have n0_ : Aside0 (Kd.R k33 33 ((((w82.setCell ⟨gb128, 4, none⟩ (.int .i64 t144)).setCell ⟨gb128, 5, none⟩ (.int .i64 t145)).setCell ⟨gb129, 0, none⟩ (.int .i64 t144)).setCell ⟨gb129, 1, none⟩ (.int .i64 t145)) w.heap.size (fun _ => True) (.slice Ao72 y130.length co72) y130) := ⟨by (with_reducible repeat (first | apply Kd.R_alloc | apply Kd.R_drewN | apply Kd.R_drew)); exact Kd.R_mono (Kd.R_far (p := ⟨gb129, 1, none⟩) (Kd.R_far (p := ⟨gb129, 0, none⟩) (Kd.R_far (p := ⟨gb128, 5, none⟩) (Kd.R_far (p := ⟨gb128, 4, none⟩) (Kd.R_types (Kd.R_types HO132.out BK128.out (by decide)) BK129.out (by decide)) (fun _ hk => hk.1.2) (.int .i64 t144)) (fun _ hk => hk.1.2) (.int .i64 t145)) (fun _ hk => hk.2) (.int .i64 t144)) (fun _ hk => hk.2) (.int .i64 t145)) (fun _ hk => trivial)⟩
          have n1_ : Aside0 (((((w82.setCell ⟨gb128, 4, none⟩ (.int .i64 t144)).setCell ⟨gb128, 5, none⟩ (.int .i64 t145)).setCell ⟨gb129, 0, none⟩ (.int .i64 t144)).setCell ⟨gb129, 1, none⟩ (.int .i64 t145)).heap[gb127]? = some (.cells #[.int .i64 a0_0, .int .i64 a0_1, .int .i64 x128002_1, .int .i64 x128003_1, .int .i64 a0_4, .int .i64 a0_5, .bool false] 37 (0, 0))) := ⟨by (with_reducible repeat (first | refine blk_drewN ?_ _ | refine blk_drew ?_ | refine blk_alloc ?_ _)); refine blk_far ?_ NB127_129.out _; (with_reducible repeat (first | refine blk_drewN ?_ _ | refine blk_drew ?_ | refine blk_alloc ?_ _)); refine blk_far ?_ NB127_129.out _; (with_reducible repeat (first | refine blk_drewN ?_ _ | refine blk_drew ?_ | refine blk_alloc ?_ _)); refine blk_far ?_ NB127_128.out _; (with_reducible repeat (first | refine blk_drewN ?_ _ | refine blk_drew ?_ | refine blk_alloc ?_ _)); refine blk_far ?_ NB127_128.out _; (with_reducible repeat (first | refine blk_drewN ?_ _ | refine blk_drew ?_ | refine blk_alloc ?_ _)); exact BK127.out⟩
          have n2_ : Aside0 (((((w82.setCell ⟨gb128, 4, none⟩ (.int .i64 t144)).setCell ⟨gb128, 5, none⟩ (.int .i64 t145)).setCell ⟨gb129, 0, none⟩ (.int .i64 t144)).setCell ⟨gb129, 1, none⟩ (.int .i64 t145)).heap[gb128]? = some (.cells #[.int .i64 t134, .int .i64 t135, .int .i64 0, .int .i64 0, .int .i64 t144, .int .i64 t145, .bool false] 37 (0, 0))) := ⟨by (with_reducible repeat (first | refine blk_drewN ?_ _ | refine blk_drew ?_ | refine blk_alloc ?_ _)); refine blk_far ?_ NB128_129.out _; (with_reducible repeat (first | refine blk_drewN ?_ _ | refine blk_drew ?_ | refine blk_alloc ?_ _)); refine blk_far ?_ NB128_129.out _; (with_reducible repeat (first | refine blk_drewN ?_ _ | refine blk_drew ?_ | refine blk_alloc ?_ _)); refine blk_put (cs := #[.int .i64 t134, .int .i64 t135, .int .i64 0, .int .i64 0, .int .i64 t144, .int .i64 0, .bool false]) ?_ 5 _ rfl; (with_reducible repeat (first | refine blk_drewN ?_ _ | refine blk_drew ?_ | refine blk_alloc ?_ _)); refine blk_put (cs := #[.int .i64 t134, .int .i64 t135, .int .i64 0, .int .i64 0, .int .i64 0, .int .i64 0, .bool false]) ?_ 4 _ rfl; (with_reducible repeat (first | refine blk_drewN ?_ _ | refine blk_drew ?_ | refine blk_alloc ?_ _)); exact BK128.out⟩
          have n3_ : Aside0 (((((w82.setCell ⟨gb128, 4, none⟩ (.int .i64 t144)).setCell ⟨gb128, 5, none⟩ (.int .i64 t145)).setCell ⟨gb129, 0, none⟩ (.int .i64 t144)).setCell ⟨gb129, 1, none⟩ (.int .i64 t145)).heap[gb129]? = some (.cells #[.int .i64 t144, .int .i64 t145, .int .i64 0, .int .i64 0, .int .i64 t136, .int .i64 t137, .bool false] 37 (0, 0))) := ⟨by (with_reducible repeat (first | refine blk_drewN ?_ _ | refine blk_drew ?_ | refine blk_alloc ?_ _)); refine blk_put (cs := #[.int .i64 t144, .int .i64 0, .int .i64 0, .int .i64 0, .int .i64 t136, .int .i64 t137, .bool false]) ?_ 1 _ rfl; (with_reducible repeat (first | refine blk_drewN ?_ _ | refine blk_drew ?_ | refine blk_alloc ?_ _)); refine blk_put (cs := #[.int .i64 0, .int .i64 0, .int .i64 0, .int .i64 0, .int .i64 t136, .int .i64 t137, .bool false]) ?_ 0 _ rfl; (with_reducible repeat (first | refine blk_drewN ?_ _ | refine blk_drew ?_ | refine blk_alloc ?_ _)); refine blk_far ?_ NB129_128.out _; (with_reducible repeat (first | refine blk_drewN ?_ _ | refine blk_drew ?_ | refine blk_alloc ?_ _)); refine blk_far ?_ NB129_128.out _; (with_reducible repeat (first | refine blk_drewN ?_ _ | refine blk_drew ?_ | refine blk_alloc ?_ _)); exact BK129.out⟩
          have n4_ : Aside0 (Below w.heap.size w ((((w82.setCell ⟨gb128, 4, none⟩ (.int .i64 t144)).setCell ⟨gb128, 5, none⟩ (.int .i64 t145)).setCell ⟨gb129, 0, none⟩ (.int .i64 t144)).setCell ⟨gb129, 1, none⟩ (.int .i64 t145))) := ⟨by repeat (first | (with_reducible first | exact HB.out | apply below_alloc | apply pw_below_drewN | apply below_drew1 | refine below_set ?_ GE127.out | refine below_set ?_ GE128.out | refine below_set ?_ GE129.out) | exact HB.out)⟩
          (try clear HO132)
          (try clear BK127)
          (try clear BK128)
          (try clear BK129)
          (try clear HB)
          generalize ((((w82.setCell ⟨gb128, 4, none⟩ (.int .i64 t144)).setCell ⟨gb128, 5, none⟩ (.int .i64 t145)).setCell ⟨gb129, 0, none⟩ (.int .i64 t144)).setCell ⟨gb129, 1, none⟩ (.int .i64 t145)) = w86 at n0_ n1_ n2_ n3_ n4_ ⊢
          have HO132 := n0_
          have BK127 := n1_
          have BK128 := n2_
          have BK129 := n3_
          have HB := n4_
          clear n0_ n1_ n2_ n3_ n4_
          have n0_ := Aside0.mk (Kd.R_drew HO132.out)
          have n1_ := Aside0.mk (blk_drew BK127.out)
          have n2_ := Aside0.mk (blk_drew BK128.out)
          have n3_ := Aside0.mk (blk_drew BK129.out)
          have n4_ := Aside0.mk (below_drew1 HB.out)
          clear HO132
          clear BK127
          clear BK128
          clear BK129
          clear HB
          have HO132 := n0_
          have BK127 := n1_
          have BK128 := n2_
          have BK129 := n3_
          have HB := n4_
          clear n0_ n1_ n2_ n3_ n4_
          refine start_ (n := 5) (S := fun w' => w'.cell? ⟨gb128, 0, none⟩ = some (.int .i64 t134) ∧ w'.cell? ⟨gb128, 1, none⟩ = some (.int .i64 t135) ∧ w'.cell? ⟨gb128, 2, none⟩ = some (.int .i64 0) ∧ w'.cell? ⟨gb128, 3, none⟩ = some (.int .i64 0) ∧ w'.cell? ⟨gb128, 4, none⟩ = some (.int .i64 t144) ∧ w'.cell? ⟨gb128, 5, none⟩ = some (.int .i64 t145) ∧ w'.cell? ⟨gb128, 6, none⟩ = some (.bool false) ∧ w'.cell? ⟨gb129, 0, none⟩ = some (.int .i64 t144) ∧ w'.cell? ⟨gb129, 1, none⟩ = some (.int .i64 t145) ∧ w'.cell? ⟨gb129, 2, none⟩ = some (.int .i64 0) ∧ w'.cell? ⟨gb129, 3, none⟩ = some (.int .i64 0) ∧ w'.cell? ⟨gb129, 4, none⟩ = some (.int .i64 t136) ∧ w'.cell? ⟨gb129, 5, none⟩ = some (.int .i64 t137) ∧ w'.cell? ⟨gb129, 6, none⟩ = some (.bool false)) (ds := []) #[false, false, false, false, false] (by kernel_rfl) rfl rfl ⟨(blk_cell BK128.out 0).trans rfl, (blk_cell BK128.out 1).trans rfl, (blk_cell BK128.out 2).trans rfl, (blk_cell BK128.out 3).trans rfl, (blk_cell BK128.out 4).trans rfl, (blk_cell BK128.out 5).trans rfl, (blk_cell BK128.out 6).trans rfl, (blk_cell BK129.out 0).trans rfl, (blk_cell BK129.out 1).trans rfl, (blk_cell BK129.out 2).trans rfl, (blk_cell BK129.out 3).trans rfl, (blk_cell BK129.out 4).trans rfl, (blk_cell BK129.out 5).trans rfl, (blk_cell BK129.out 6).trans rfl⟩ (fun hHeld => ?_)
          generalize w86.drew = w87 at HO132 BK127 BK128 BK129 HB hHeld ⊢
          refine take_ (i := 0) (N := some 36) (v := ?_) (a' := ?_) #[true, false, false, false, false] rfl rfl (by kernel_rfl) (fun _ _ _ h => h) (Or.inl ⟨by rfl, ?_⟩) hHeld ?_ ?_
          rotate_left
          · rintro w' ⟨s0, s1, s2, s3, s4, s5, s6, s7, s8, s9, s10, s11, s12, s13⟩
            go_simp
            with_reducible rfl
          rotate_left
          · simp only [Act.put, List.setIfInBounds_toArray, List.set_cons_zero, List.set_cons_succ, i64_w, i32_w]
            rfl
          refine take_ (i := 1) (N := some 37) (v := ?_) (a' := ?_) #[true, true, false, false, false] rfl rfl (by kernel_rfl) (fun _ _ _ h => h) (Or.inl ⟨by rfl, ?_⟩) hHeld ?_ ?_
          rotate_left
          · rintro w' ⟨s0, s1, s2, s3, s4, s5, s6, s7, s8, s9, s10, s11, s12, s13⟩
            go_simp
            with_reducible rfl
          rotate_left
          · simp only [Act.put, List.setIfInBounds_toArray, List.set_cons_zero, List.set_cons_succ, i64_w, i32_w]
            rfl
          refine one_ (i := 2) (N := none) #[true, true, true, false, false] rfl rfl (by kernel_rfl) (by decide) (fun K hK => ?_)
          have hs88 : w87.cell? ⟨gb128, 0, none⟩ = some (.int .i64 t134) := (blk_cell BK128.out 0).trans rfl
          have hfs88 := blk_frozen BK128.out 0
          have hns88_0 := NB127_128.out
          have hns88_2 := NB129_128.out
          have hms88_0 := NB128_127.out
          have hms88_2 := NB128_129.out
          have hs89 : w87.cell? ⟨gb128, 1, none⟩ = some (.int .i64 t135) := (blk_cell BK128.out 1).trans rfl
          have hfs89 := blk_frozen BK128.out 1
          have hns89_0 := NB127_128.out
          have hns89_2 := NB129_128.out
          have hms89_0 := NB128_127.out
          have hms89_2 := NB128_129.out
          have hs90 : w87.cell? ⟨gb128, 2, none⟩ = some (.int .i64 0) := (blk_cell BK128.out 2).trans rfl
          have hfs90 := blk_frozen BK128.out 2
          have hns90_0 := NB127_128.out
          have hns90_2 := NB129_128.out
          have hms90_0 := NB128_127.out
          have hms90_2 := NB128_129.out
          have hs91 : w87.cell? ⟨gb128, 3, none⟩ = some (.int .i64 0) := (blk_cell BK128.out 3).trans rfl
          have hfs91 := blk_frozen BK128.out 3
          have hns91_0 := NB127_128.out
          have hns91_2 := NB129_128.out
          have hms91_0 := NB128_127.out
          have hms91_2 := NB128_129.out
          have hs92 : w87.cell? ⟨gb128, 4, none⟩ = some (.int .i64 t144) := (blk_cell BK128.out 4).trans rfl
          have hfs92 := blk_frozen BK128.out 4
          have hns92_0 := NB127_128.out
          have hns92_2 := NB129_128.out
          have hms92_0 := NB128_127.out
          have hms92_2 := NB128_129.out
          have hs93 : w87.cell? ⟨gb128, 5, none⟩ = some (.int .i64 t145) := (blk_cell BK128.out 5).trans rfl
          have hfs93 := blk_frozen BK128.out 5
          have hns93_0 := NB127_128.out
          have hns93_2 := NB129_128.out
          have hms93_0 := NB128_127.out
          have hms93_2 := NB128_129.out
          have hs94 : w87.cell? ⟨gb128, 6, none⟩ = some (.bool false) := (blk_cell BK128.out 6).trans rfl
          have hfs94 := blk_frozen BK128.out 6
          have hns94_0 := NB127_128.out
          have hns94_2 := NB129_128.out
          have hms94_0 := NB128_127.out
          have hms94_2 := NB128_129.out
          refine skip_ (w1 := ?_) ?_ ?_ ?_ ?_
          rotate_left
          · rfl
          · rfl
          · go_simp
            rfl
          clear hs88 hfs88 hns88_0 hns88_2 hms88_0 hms88_2 hs89 hfs89 hns89_0 hns89_2 hms89_0 hms89_2 hs90 hfs90 hns90_0 hns90_2 hms90_0 hms90_2 hs91 hfs91 hns91_0 hns91_2 hms91_0 hms91_2 hs92 hfs92 hns92_0 hns92_2 hms92_0 hms92_2 hs93 hfs93 hns93_0 hns93_2 hms93_0 hms93_2 hs94 hfs94 hns94_0 hns94_2 hms94_0 hms94_2
          have hself_ := Aid.set_more (Aid.set_more (Aid.set_more (Aid.set_more (Aid.set_more (Aid.set_more (Aid.set_same hHeld.1) hHeld.2.1) hHeld.2.2.1) hHeld.2.2.2.1) hHeld.2.2.2.2.1) hHeld.2.2.2.2.2.1) hHeld.2.2.2.2.2.2.1
          have hst0_ := Aid.keep_eq hself_ hHeld.1
          have hst1_ := Aid.keep_eq hself_ hHeld.2.1
          have hst2_ := Aid.keep_eq hself_ hHeld.2.2.1
          have hst3_ := Aid.keep_eq hself_ hHeld.2.2.2.1
          have hst4_ := Aid.keep_eq hself_ hHeld.2.2.2.2.1
          have hst5_ := Aid.keep_eq hself_ hHeld.2.2.2.2.2.1
          have hst6_ := Aid.keep_eq hself_ hHeld.2.2.2.2.2.2.1
          have hst7_ := Aid.keep_eq hself_ hHeld.2.2.2.2.2.2.2.1
          have hst8_ := Aid.keep_eq hself_ hHeld.2.2.2.2.2.2.2.2.1
          have hst9_ := Aid.keep_eq hself_ hHeld.2.2.2.2.2.2.2.2.2.1
          have hst10_ := Aid.keep_eq hself_ hHeld.2.2.2.2.2.2.2.2.2.2.1
          have hst11_ := Aid.keep_eq hself_ hHeld.2.2.2.2.2.2.2.2.2.2.2.1
          have hst12_ := Aid.keep_eq hself_ hHeld.2.2.2.2.2.2.2.2.2.2.2.2.1
          have hst13_ := Aid.keep_eq hself_ hHeld.2.2.2.2.2.2.2.2.2.2.2.2.2
          clear hself_
          refine hK.out _ _ ⟨hst0_, hst1_, hst2_, hst3_, hst4_, hst5_, hst6_, hst7_, hst8_, hst9_, hst10_, hst11_, hst12_, hst13_⟩ (fun hHeld => ?_)
          clear hK K
          refine one_ (i := 3) (N := none) #[true, true, true, true, false] rfl rfl (by kernel_rfl) (by decide) (fun K hK => ?_)
          have hs95 : w87.cell? ⟨gb129, 0, none⟩ = some (.int .i64 t144) := (blk_cell BK129.out 0).trans rfl
          have hfs95 := blk_frozen BK129.out 0
          have hns95_0 := NB127_129.out
          have hns95_1 := NB128_129.out
          have hms95_0 := NB129_127.out
          have hms95_1 := NB129_128.out
          have hs96 : w87.cell? ⟨gb129, 1, none⟩ = some (.int .i64 t145) := (blk_cell BK129.out 1).trans rfl
          have hfs96 := blk_frozen BK129.out 1
          have hns96_0 := NB127_129.out
          have hns96_1 := NB128_129.out
          have hms96_0 := NB129_127.out
          have hms96_1 := NB129_128.out
          have hs97 : w87.cell? ⟨gb129, 2, none⟩ = some (.int .i64 0) := (blk_cell BK129.out 2).trans rfl
          have hfs97 := blk_frozen BK129.out 2
          have hns97_0 := NB127_129.out
          have hns97_1 := NB128_129.out
          have hms97_0 := NB129_127.out
          have hms97_1 := NB129_128.out
          have hs98 : w87.cell? ⟨gb129, 3, none⟩ = some (.int .i64 0) := (blk_cell BK129.out 3).trans rfl
          have hfs98 := blk_frozen BK129.out 3
          have hns98_0 := NB127_129.out
          have hns98_1 := NB128_129.out
          have hms98_0 := NB129_127.out
          have hms98_1 := NB129_128.out
          have hs99 : w87.cell? ⟨gb129, 4, none⟩ = some (.int .i64 t136) := (blk_cell BK129.out 4).trans rfl
          have hfs99 := blk_frozen BK129.out 4
          have hns99_0 := NB127_129.out
          have hns99_1 := NB128_129.out
          have hms99_0 := NB129_127.out
          have hms99_1 := NB129_128.out
          have hs100 : w87.cell? ⟨gb129, 5, none⟩ = some (.int .i64 t137) := (blk_cell BK129.out 5).trans rfl
          have hfs100 := blk_frozen BK129.out 5
          have hns100_0 := NB127_129.out
          have hns100_1 := NB128_129.out
          have hms100_0 := NB129_127.out
          have hms100_1 := NB129_128.out
          have hs101 : w87.cell? ⟨gb129, 6, none⟩ = some (.bool false) := (blk_cell BK129.out 6).trans rfl
          have hfs101 := blk_frozen BK129.out 6
          have hns101_0 := NB127_129.out
          have hns101_1 := NB128_129.out
          have hms101_0 := NB129_127.out
          have hms101_1 := NB129_128.out
          refine skip_ (w1 := ?_) ?_ ?_ ?_ ?_
          rotate_left
          · rfl
          · rfl
          · go_simp
            rfl
          clear hs95 hfs95 hns95_0 hns95_1 hms95_0 hms95_1 hs96 hfs96 hns96_0 hns96_1 hms96_0 hms96_1 hs97 hfs97 hns97_0 hns97_1 hms97_0 hms97_1 hs98 hfs98 hns98_0 hns98_1 hms98_0 hms98_1 hs99 hfs99 hns99_0 hns99_1 hms99_0 hms99_1 hs100 hfs100 hns100_0 hns100_1 hms100_0 hms100_1 hs101 hfs101 hns101_0 hns101_1 hms101_0 hms101_1
          have hself_ := Aid.set_more (Aid.set_more (Aid.set_more (Aid.set_more (Aid.set_more (Aid.set_more (Aid.set_same hHeld.2.2.2.2.2.2.2.1) hHeld.2.2.2.2.2.2.2.2.1) hHeld.2.2.2.2.2.2.2.2.2.1) hHeld.2.2.2.2.2.2.2.2.2.2.1) hHeld.2.2.2.2.2.2.2.2.2.2.2.1) hHeld.2.2.2.2.2.2.2.2.2.2.2.2.1) hHeld.2.2.2.2.2.2.2.2.2.2.2.2.2
          have hst0_ := Aid.keep_eq hself_ hHeld.1
          have hst1_ := Aid.keep_eq hself_ hHeld.2.1
          have hst2_ := Aid.keep_eq hself_ hHeld.2.2.1
          have hst3_ := Aid.keep_eq hself_ hHeld.2.2.2.1
          have hst4_ := Aid.keep_eq hself_ hHeld.2.2.2.2.1
          have hst5_ := Aid.keep_eq hself_ hHeld.2.2.2.2.2.1
          have hst6_ := Aid.keep_eq hself_ hHeld.2.2.2.2.2.2.1
          have hst7_ := Aid.keep_eq hself_ hHeld.2.2.2.2.2.2.2.1
          have hst8_ := Aid.keep_eq hself_ hHeld.2.2.2.2.2.2.2.2.1
          have hst9_ := Aid.keep_eq hself_ hHeld.2.2.2.2.2.2.2.2.2.1
          have hst10_ := Aid.keep_eq hself_ hHeld.2.2.2.2.2.2.2.2.2.2.1
          have hst11_ := Aid.keep_eq hself_ hHeld.2.2.2.2.2.2.2.2.2.2.2.1
          have hst12_ := Aid.keep_eq hself_ hHeld.2.2.2.2.2.2.2.2.2.2.2.2.1
          have hst13_ := Aid.keep_eq hself_ hHeld.2.2.2.2.2.2.2.2.2.2.2.2.2
          clear hself_
          refine hK.out _ _ ⟨hst0_, hst1_, hst2_, hst3_, hst4_, hst5_, hst6_, hst7_, hst8_, hst9_, hst10_, hst11_, hst12_, hst13_⟩ (fun hHeld => ?_)
          clear hK K
          refine pure_ (i := 4) (N := some 4) (v := ?_) (a' := ?_) #[true, true, true, true, true] rfl rfl (by kernel_rfl) (fun _ _ _ h => h) (Or.inl ⟨by rfl, ?_⟩) ?_ ?_
          rotate_left
          · intro w'
            go_simp
            with_reducible rfl
          rotate_left
          · simp only [Act.put, List.setIfInBounds_toArray, List.set_cons_zero, List.set_cons_succ, i64_w, i32_w]
            rfl
          refine done_ (by kernel_rfl) ?_
          try go_wp2
          refine bodyPost_ret (results_list (rs := [.cell 2 37, .cell 3 37, .tmp 4]) rfl (by simp) (.cell gb128 37 #[.int .i64 t134, .int .i64 t135, .int .i64 0, .int .i64 0, .int .i64 t144, .int .i64 t145, .bool false] (0, 0) _ rfl (by (with_reducible repeat (first | refine blk_drewN ?_ _ | refine blk_drew ?_ | refine blk_alloc ?_ _)); refine blk_far ?_ NB128_129.out _; (with_reducible repeat (first | refine blk_drewN ?_ _ | refine blk_drew ?_ | refine blk_alloc ?_ _)); refine blk_far ?_ NB128_129.out _; (with_reducible repeat (first | refine blk_drewN ?_ _ | refine blk_drew ?_ | refine blk_alloc ?_ _)); refine blk_far ?_ NB128_129.out _; (with_reducible repeat (first | refine blk_drewN ?_ _ | refine blk_drew ?_ | refine blk_alloc ?_ _)); refine blk_far ?_ NB128_129.out _; (with_reducible repeat (first | refine blk_drewN ?_ _ | refine blk_drew ?_ | refine blk_alloc ?_ _)); refine blk_far ?_ NB128_129.out _; (with_reducible repeat (first | refine blk_drewN ?_ _ | refine blk_drew ?_ | refine blk_alloc ?_ _)); refine blk_far ?_ NB128_129.out _; (with_reducible repeat (first | refine blk_drewN ?_ _ | refine blk_drew ?_ | refine blk_alloc ?_ _)); refine blk_far ?_ NB128_129.out _; (with_reducible repeat (first | refine blk_drewN ?_ _ | refine blk_drew ?_ | refine blk_alloc ?_ _)); refine blk_put (cs := #[.int .i64 t134, .int .i64 t135, .int .i64 0, .int .i64 0, .int .i64 t144, .int .i64 t145, .bool false]) ?_ 6 _ rfl; (with_reducible repeat (first | refine blk_drewN ?_ _ | refine blk_drew ?_ | refine blk_alloc ?_ _)); refine blk_put (cs := #[.int .i64 t134, .int .i64 t135, .int .i64 0, .int .i64 0, .int .i64 t144, .int .i64 t145, .bool false]) ?_ 5 _ rfl; (with_reducible repeat (first | refine blk_drewN ?_ _ | refine blk_drew ?_ | refine blk_alloc ?_ _)); refine blk_put (cs := #[.int .i64 t134, .int .i64 t135, .int .i64 0, .int .i64 0, .int .i64 t144, .int .i64 t145, .bool false]) ?_ 4 _ rfl; (with_reducible repeat (first | refine blk_drewN ?_ _ | refine blk_drew ?_ | refine blk_alloc ?_ _)); refine blk_put (cs := #[.int .i64 t134, .int .i64 t135, .int .i64 0, .int .i64 0, .int .i64 t144, .int .i64 t145, .bool false]) ?_ 3 _ rfl; (with_reducible repeat (first | refine blk_drewN ?_ _ | refine blk_drew ?_ | refine blk_alloc ?_ _)); refine blk_put (cs := #[.int .i64 t134, .int .i64 t135, .int .i64 0, .int .i64 0, .int .i64 t144, .int .i64 t145, .bool false]) ?_ 2 _ rfl; (with_reducible repeat (first | refine blk_drewN ?_ _ | refine blk_drew ?_ | refine blk_alloc ?_ _)); refine blk_put (cs := #[.int .i64 t134, .int .i64 t135, .int .i64 0, .int .i64 0, .int .i64 t144, .int .i64 t145, .bool false]) ?_ 1 _ rfl; (with_reducible repeat (first | refine blk_drewN ?_ _ | refine blk_drew ?_ | refine blk_alloc ?_ _)); refine blk_put (cs := #[.int .i64 t134, .int .i64 t135, .int .i64 0, .int .i64 0, .int .i64 t144, .int .i64 t145, .bool false]) ?_ 0 _ rfl; (with_reducible repeat (first | refine blk_drewN ?_ _ | refine blk_drew ?_ | refine blk_alloc ?_ _)); exact BK128.out) Try.underlying37 rfl (by kernel_rfl) (.cell gb129 37 #[.int .i64 t144, .int .i64 t145, .int .i64 0, .int .i64 0, .int .i64 t136, .int .i64 t137, .bool false] (0, 0) _ rfl (by (with_reducible repeat (first | refine blk_drewN ?_ _ | refine blk_drew ?_ | refine blk_alloc ?_ _)); refine blk_put (cs := #[.int .i64 t144, .int .i64 t145, .int .i64 0, .int .i64 0, .int .i64 t136, .int .i64 t137, .bool false]) ?_ 6 _ rfl; (with_reducible repeat (first | refine blk_drewN ?_ _ | refine blk_drew ?_ | refine blk_alloc ?_ _)); refine blk_put (cs := #[.int .i64 t144, .int .i64 t145, .int .i64 0, .int .i64 0, .int .i64 t136, .int .i64 t137, .bool false]) ?_ 5 _ rfl; (with_reducible repeat (first | refine blk_drewN ?_ _ | refine blk_drew ?_ | refine blk_alloc ?_ _)); refine blk_put (cs := #[.int .i64 t144, .int .i64 t145, .int .i64 0, .int .i64 0, .int .i64 t136, .int .i64 t137, .bool false]) ?_ 4 _ rfl; (with_reducible repeat (first | refine blk_drewN ?_ _ | refine blk_drew ?_ | refine blk_alloc ?_ _)); refine blk_put (cs := #[.int .i64 t144, .int .i64 t145, .int .i64 0, .int .i64 0, .int .i64 t136, .int .i64 t137, .bool false]) ?_ 3 _ rfl; (with_reducible repeat (first | refine blk_drewN ?_ _ | refine blk_drew ?_ | refine blk_alloc ?_ _)); refine blk_put (cs := #[.int .i64 t144, .int .i64 t145, .int .i64 0, .int .i64 0, .int .i64 t136, .int .i64 t137, .bool false]) ?_ 2 _ rfl; (with_reducible repeat (first | refine blk_drewN ?_ _ | refine blk_drew ?_ | refine blk_alloc ?_ _)); refine blk_put (cs := #[.int .i64 t144, .int .i64 t145, .int .i64 0, .int .i64 0, .int .i64 t136, .int .i64 t137, .bool false]) ?_ 1 _ rfl; (with_reducible repeat (first | refine blk_drewN ?_ _ | refine blk_drew ?_ | refine blk_alloc ?_ _)); refine blk_put (cs := #[.int .i64 t144, .int .i64 t145, .int .i64 0, .int .i64 0, .int .i64 t136, .int .i64 t137, .bool false]) ?_ 0 _ rfl; (with_reducible repeat (first | refine blk_drewN ?_ _ | refine blk_drew ?_ | refine blk_alloc ?_ _)); refine blk_far ?_ NB129_128.out _; (with_reducible repeat (first | refine blk_drewN ?_ _ | refine blk_drew ?_ | refine blk_alloc ?_ _)); refine blk_far ?_ NB129_128.out _; (with_reducible repeat (first | refine blk_drewN ?_ _ | refine blk_drew ?_ | refine blk_alloc ?_ _)); refine blk_far ?_ NB129_128.out _; (with_reducible repeat (first | refine blk_drewN ?_ _ | refine blk_drew ?_ | refine blk_alloc ?_ _)); refine blk_far ?_ NB129_128.out _; (with_reducible repeat (first | refine blk_drewN ?_ _ | refine blk_drew ?_ | refine blk_alloc ?_ _)); refine blk_far ?_ NB129_128.out _; (with_reducible repeat (first | refine blk_drewN ?_ _ | refine blk_drew ?_ | refine blk_alloc ?_ _)); refine blk_far ?_ NB129_128.out _; (with_reducible repeat (first | refine blk_drewN ?_ _ | refine blk_drew ?_ | refine blk_alloc ?_ _)); refine blk_far ?_ NB129_128.out _; (with_reducible repeat (first | refine blk_drewN ?_ _ | refine blk_drew ?_ | refine blk_alloc ?_ _)); exact BK129.out) Try.underlying37 rfl (by kernel_rfl) (.tmp .nil)))) rfl ?_
          exact ⟨by first | rfl | (simp [errW_none, errW_some] <;> rfl) | (simp [*, errW_none, errW_some] <;> rfl), by repeat (first | (with_reducible first | exact HB.out | apply below_alloc | apply pw_below_drewN | apply below_drew1 | refine below_set ?_ GE127.out | refine below_set ?_ GE128.out | refine below_set ?_ GE129.out) | exact HB.out)⟩
      · replace c14 := Bool.eq_false_iff.mpr c14
        subst c14
        have H1 : (some (0, 0, 0, 0, 0, 0, false, 0, 0, 0, 0, 0, 0, false, 6)) = some (r1, r2, r3, r4, r5, r6, r7, r8, r9, r10, r11, r12, r13, r14, r15) := by rw [if_neg (show ¬ (false = true) by decide)] at H; exact H
        clear H
        have H := H1
        clear H1
        simp only [Option.some.injEq, Prod.mk.injEq] at H
        obtain ⟨rfl, rfl, rfl, rfl, rfl, rfl, rfl, rfl, rfl, rfl, rfl, rfl, rfl, rfl, rfl⟩ := H
        have hnb102 := NB127_128.out
        have hnc102 := NB128_127.out
        have hnb103 := NB127_129.out
        have hnc103 := NB129_127.out
        have hcz104_0 : wc.cell? ⟨gb127, 0, none⟩ = some (.int .i64 a0_0) := (blk_cell BK127.out 0).trans rfl
        have hcz104_1 : wc.cell? ⟨gb127, 1, none⟩ = some (.int .i64 a0_1) := (blk_cell BK127.out 1).trans rfl
        have hcz104_2 : wc.cell? ⟨gb127, 2, none⟩ = some (.int .i64 x128002_1) := (blk_cell BK127.out 2).trans rfl
        have hcz104_3 : wc.cell? ⟨gb127, 3, none⟩ = some (.int .i64 x128003_1) := (blk_cell BK127.out 3).trans rfl
        have hcz104_4 : wc.cell? ⟨gb127, 4, none⟩ = some (.int .i64 a0_4) := (blk_cell BK127.out 4).trans rfl
        have hcz104_5 : wc.cell? ⟨gb127, 5, none⟩ = some (.int .i64 a0_5) := (blk_cell BK127.out 5).trans rfl
        have hcz104_6 : wc.cell? ⟨gb127, 6, none⟩ = some (.bool a0_6) := (blk_cell BK127.out 6).trans rfl
        have hfz104_0 := blk_frozen BK127.out 0
        have hfz104_1 := blk_frozen BK127.out 1
        have hfz104_2 := blk_frozen BK127.out 2
        have hfz104_3 := blk_frozen BK127.out 3
        have hfz104_4 := blk_frozen BK127.out 4
        have hfz104_5 := blk_frozen BK127.out 5
        have hfz104_6 := blk_frozen BK127.out 6
        go_wp2_with (first | ((with_reducible refine gate_dst (N := 16) rfl ?_); refine Kd.R_lit k33 _ 33 ?hg (N := 16) ?hd (xs := ([(⟨a0_0, a0_1⟩ : S33), (⟨a0_4, a0_5⟩ : S33), (⟨x128002_1, x128003_1⟩ : S33)] : List (S33))) (inner := [.int .i64 a0_0, .int .i64 a0_1, .int .i64 a0_4, .int .i64 a0_5, .int .i64 x128002_1, .int .i64 x128003_1]) (ok := fun _ => True) (okp := fun _ => True) ?hr ?hp (fun _ hk => hk) trivial (Below.refl _ _) (Nat.le_refl _) (by simp) ?_; (case hd => rfl); (case hg => rfl); (case hr => first | (go_simp; done) | (go_simp; rfl)); (case hp => exact (Reps.c2 (show Kd.M k33 _ _ _ (⟨a0_0, a0_1⟩ : S33) [.int .i64 a0_0, .int .i64 a0_1] from (k33_mkM _ _ _ (⟨a0_0, a0_1⟩ : S33) )) (Reps.c2 (show Kd.M k33 _ _ _ (⟨a0_4, a0_5⟩ : S33) [.int .i64 a0_4, .int .i64 a0_5] from (k33_mkM _ _ _ (⟨a0_4, a0_5⟩ : S33) )) (Reps.c2 (show Kd.M k33 _ _ _ (⟨x128002_1, x128003_1⟩ : S33) [.int .i64 x128002_1, .int .i64 x128003_1] from (k33_mkM _ _ _ (⟨x128002_1, x128003_1⟩ : S33) )) (Reps.none _ _))))); intro v131 w105 ho106 hb hg_ hnew_; clear hg_ hnew_; (first | rw [← Ny130.out] at ho106 | (simp only [Int.reduceToNat] at ho106; rw [← Ny130.out] at ho106)); have n0_ := Aside0.mk (Kd.R_lower ho106 (below_size (by repeat (first | (with_reducible first | exact HB.out | apply below_alloc | apply pw_below_drewN | apply below_drew1 | refine below_set ?_ GE127.out | refine below_set ?_ GE128.out | refine below_set ?_ GE129.out) | exact HB.out)))); have n1_ := Aside0.mk (blk_below (g := gb127) (o := .cells #[.int .i64 a0_0, .int .i64 a0_1, .int .i64 x128002_1, .int .i64 x128003_1, .int .i64 a0_4, .int .i64 a0_5, .bool a0_6] 37 (0, 0)) (by (with_reducible repeat (first | refine blk_drewN ?_ _ | refine blk_drew ?_ | refine blk_alloc ?_ _)); exact BK127.out) hb); have n2_ := Aside0.mk (blk_below (g := gb128) (o := .cells #[.int .i64 0, .int .i64 0, .int .i64 0, .int .i64 0, .int .i64 0, .int .i64 0, .bool false] 37 (0, 0)) (by (with_reducible repeat (first | refine blk_drewN ?_ _ | refine blk_drew ?_ | refine blk_alloc ?_ _)); exact BK128.out) hb); have n3_ := Aside0.mk (blk_below (g := gb129) (o := .cells #[.int .i64 0, .int .i64 0, .int .i64 0, .int .i64 0, .int .i64 0, .int .i64 0, .bool false] 37 (0, 0)) (by (with_reducible repeat (first | refine blk_drewN ?_ _ | refine blk_drew ?_ | refine blk_alloc ?_ _)); exact BK129.out) hb); have n4_ := Aside0.mk (below_step (by repeat (first | (with_reducible first | exact HB.out | apply below_alloc | apply pw_below_drewN | apply below_drew1 | refine below_set ?_ GE127.out | refine below_set ?_ GE128.out | refine below_set ?_ GE129.out) | exact HB.out)) hb); clear BK127; clear BK128; clear BK129; clear HB; have HO132 := n0_; have BK127 := n1_; have BK128 := n2_; have BK129 := n3_; have HB := n4_; clear n0_ n1_ n2_ n3_ n4_; clear hb ho106; obtain ⟨Ao107, co107, eo107⟩ := Kd.R_slice HO132.out; subst eo107) | ((with_reducible refine gate_callee (f := 58) rfl ?_); refine goesL_ (some 17) rfl rfl Try.func58 (by kernel_rfl) rfl #[.slice Ao107 y130.length co107] rfl (by (try simp only [List.map_toArray, List.map_cons, List.map_nil]); first | done | rfl | (simp only [List.length_drop, List.length_take]; rfl)) ?_; (with_reducible refine (quad_near.calls kj1 _ _ y130 false _ ?side1 ?side2 A13.out).mono ?_); (case side1 => repeat (first | exact (Kd.R_reads' HO132.out).2.2 | (with_reducible refine Kd.C_alloc ?_ _) | (with_reducible refine Kd.C_drewN ?_ _) | (with_reducible refine Kd.C_drew ?_))); (case side2 => exact (Kd.R_reads' HO132.out).2.1); rintro e w108 ⟨rfl, hb⟩; refine ⟨_, rfl, ?_⟩; have n0_ := Aside0.mk (Kd.R_below (by (with_reducible repeat (first | apply Kd.R_alloc | apply Kd.R_drewN | apply Kd.R_drew)); exact HO132.out) hb); have n1_ := Aside0.mk (blk_below (g := gb127) (o := .cells #[.int .i64 a0_0, .int .i64 a0_1, .int .i64 x128002_1, .int .i64 x128003_1, .int .i64 a0_4, .int .i64 a0_5, .bool a0_6] 37 (0, 0)) (by (with_reducible repeat (first | refine blk_drewN ?_ _ | refine blk_drew ?_ | refine blk_alloc ?_ _)); exact BK127.out) hb); have n2_ := Aside0.mk (blk_below (g := gb128) (o := .cells #[.int .i64 0, .int .i64 0, .int .i64 0, .int .i64 0, .int .i64 0, .int .i64 0, .bool false] 37 (0, 0)) (by (with_reducible repeat (first | refine blk_drewN ?_ _ | refine blk_drew ?_ | refine blk_alloc ?_ _)); exact BK128.out) hb); have n3_ := Aside0.mk (blk_below (g := gb129) (o := .cells #[.int .i64 0, .int .i64 0, .int .i64 0, .int .i64 0, .int .i64 0, .int .i64 0, .bool false] 37 (0, 0)) (by (with_reducible repeat (first | refine blk_drewN ?_ _ | refine blk_drew ?_ | refine blk_alloc ?_ _)); exact BK129.out) hb); have n4_ := Aside0.mk (below_step (by repeat (first | (with_reducible first | exact HB.out | apply below_alloc | apply pw_below_drewN | apply below_drew1 | refine below_set ?_ GE127.out | refine below_set ?_ GE128.out | refine below_set ?_ GE129.out) | exact HB.out)) hb); clear HO132; clear BK127; clear BK128; clear BK129; clear HB; have HO132 := n0_; have BK127 := n1_; have BK128 := n2_; have BK129 := n3_; have HB := n4_; clear n0_ n1_ n2_ n3_ n4_; (try clear hb); (try clear hb2); (try clear hk); (try clear hi); have hnb109 := NB128_129.out; have hnc109 := NB129_128.out; have hcz110_0 : w108.cell? ⟨gb128, 0, none⟩ = some (.int .i64 0) := (blk_cell BK128.out 0).trans rfl; have hcz110_1 : w108.cell? ⟨gb128, 1, none⟩ = some (.int .i64 0) := (blk_cell BK128.out 1).trans rfl; have hcz110_2 : w108.cell? ⟨gb128, 2, none⟩ = some (.int .i64 0) := (blk_cell BK128.out 2).trans rfl; have hcz110_3 : w108.cell? ⟨gb128, 3, none⟩ = some (.int .i64 0) := (blk_cell BK128.out 3).trans rfl; have hcz110_4 : w108.cell? ⟨gb128, 4, none⟩ = some (.int .i64 0) := (blk_cell BK128.out 4).trans rfl; have hcz110_5 : w108.cell? ⟨gb128, 5, none⟩ = some (.int .i64 0) := (blk_cell BK128.out 5).trans rfl; have hcz110_6 : w108.cell? ⟨gb128, 6, none⟩ = some (.bool false) := (blk_cell BK128.out 6).trans rfl; have hfz110_0 := blk_frozen BK128.out 0; have hfz110_1 := blk_frozen BK128.out 1; have hfz110_2 := blk_frozen BK128.out 2; have hfz110_3 := blk_frozen BK128.out 3; have hfz110_4 := blk_frozen BK128.out 4; have hfz110_5 := blk_frozen BK128.out 5; have hfz110_6 := blk_frozen BK128.out 6; have hcz111_0 : w108.cell? ⟨gb129, 0, none⟩ = some (.int .i64 0) := (blk_cell BK129.out 0).trans rfl; have hcz111_1 : w108.cell? ⟨gb129, 1, none⟩ = some (.int .i64 0) := (blk_cell BK129.out 1).trans rfl; have hcz111_2 : w108.cell? ⟨gb129, 2, none⟩ = some (.int .i64 0) := (blk_cell BK129.out 2).trans rfl; have hcz111_3 : w108.cell? ⟨gb129, 3, none⟩ = some (.int .i64 0) := (blk_cell BK129.out 3).trans rfl; have hcz111_4 : w108.cell? ⟨gb129, 4, none⟩ = some (.int .i64 0) := (blk_cell BK129.out 4).trans rfl; have hcz111_5 : w108.cell? ⟨gb129, 5, none⟩ = some (.int .i64 0) := (blk_cell BK129.out 5).trans rfl; have hcz111_6 : w108.cell? ⟨gb129, 6, none⟩ = some (.bool false) := (blk_cell BK129.out 6).trans rfl; have hfz111_0 := blk_frozen BK129.out 0; have hfz111_1 := blk_frozen BK129.out 1; have hfz111_2 := blk_frozen BK129.out 2; have hfz111_3 := blk_frozen BK129.out 3; have hfz111_4 := blk_frozen BK129.out 4; have hfz111_5 := blk_frozen BK129.out 5; have hfz111_6 := blk_frozen BK129.out 6))
        refine bodyPost_ret (results_list (rs := [.cell 2 37, .cell 3 37, .tmp 4]) rfl (by simp) (.cell gb128 37 #[.int .i64 0, .int .i64 0, .int .i64 0, .int .i64 0, .int .i64 0, .int .i64 0, .bool false] (0, 0) _ rfl (by (with_reducible repeat (first | refine blk_drewN ?_ _ | refine blk_drew ?_ | refine blk_alloc ?_ _)); refine blk_far ?_ NB128_129.out _; (with_reducible repeat (first | refine blk_drewN ?_ _ | refine blk_drew ?_ | refine blk_alloc ?_ _)); refine blk_far ?_ NB128_129.out _; (with_reducible repeat (first | refine blk_drewN ?_ _ | refine blk_drew ?_ | refine blk_alloc ?_ _)); refine blk_far ?_ NB128_129.out _; (with_reducible repeat (first | refine blk_drewN ?_ _ | refine blk_drew ?_ | refine blk_alloc ?_ _)); refine blk_far ?_ NB128_129.out _; (with_reducible repeat (first | refine blk_drewN ?_ _ | refine blk_drew ?_ | refine blk_alloc ?_ _)); refine blk_far ?_ NB128_129.out _; (with_reducible repeat (first | refine blk_drewN ?_ _ | refine blk_drew ?_ | refine blk_alloc ?_ _)); refine blk_far ?_ NB128_129.out _; (with_reducible repeat (first | refine blk_drewN ?_ _ | refine blk_drew ?_ | refine blk_alloc ?_ _)); refine blk_far ?_ NB128_129.out _; (with_reducible repeat (first | refine blk_drewN ?_ _ | refine blk_drew ?_ | refine blk_alloc ?_ _)); refine blk_put (cs := #[.int .i64 0, .int .i64 0, .int .i64 0, .int .i64 0, .int .i64 0, .int .i64 0, .bool false]) ?_ 6 _ rfl; (with_reducible repeat (first | refine blk_drewN ?_ _ | refine blk_drew ?_ | refine blk_alloc ?_ _)); refine blk_put (cs := #[.int .i64 0, .int .i64 0, .int .i64 0, .int .i64 0, .int .i64 0, .int .i64 0, .bool false]) ?_ 5 _ rfl; (with_reducible repeat (first | refine blk_drewN ?_ _ | refine blk_drew ?_ | refine blk_alloc ?_ _)); refine blk_put (cs := #[.int .i64 0, .int .i64 0, .int .i64 0, .int .i64 0, .int .i64 0, .int .i64 0, .bool false]) ?_ 4 _ rfl; (with_reducible repeat (first | refine blk_drewN ?_ _ | refine blk_drew ?_ | refine blk_alloc ?_ _)); refine blk_put (cs := #[.int .i64 0, .int .i64 0, .int .i64 0, .int .i64 0, .int .i64 0, .int .i64 0, .bool false]) ?_ 3 _ rfl; (with_reducible repeat (first | refine blk_drewN ?_ _ | refine blk_drew ?_ | refine blk_alloc ?_ _)); refine blk_put (cs := #[.int .i64 0, .int .i64 0, .int .i64 0, .int .i64 0, .int .i64 0, .int .i64 0, .bool false]) ?_ 2 _ rfl; (with_reducible repeat (first | refine blk_drewN ?_ _ | refine blk_drew ?_ | refine blk_alloc ?_ _)); refine blk_put (cs := #[.int .i64 0, .int .i64 0, .int .i64 0, .int .i64 0, .int .i64 0, .int .i64 0, .bool false]) ?_ 1 _ rfl; (with_reducible repeat (first | refine blk_drewN ?_ _ | refine blk_drew ?_ | refine blk_alloc ?_ _)); refine blk_put (cs := #[.int .i64 0, .int .i64 0, .int .i64 0, .int .i64 0, .int .i64 0, .int .i64 0, .bool false]) ?_ 0 _ rfl; (with_reducible repeat (first | refine blk_drewN ?_ _ | refine blk_drew ?_ | refine blk_alloc ?_ _)); exact BK128.out) Try.underlying37 rfl (by kernel_rfl) (.cell gb129 37 #[.int .i64 0, .int .i64 0, .int .i64 0, .int .i64 0, .int .i64 0, .int .i64 0, .bool false] (0, 0) _ rfl (by (with_reducible repeat (first | refine blk_drewN ?_ _ | refine blk_drew ?_ | refine blk_alloc ?_ _)); refine blk_put (cs := #[.int .i64 0, .int .i64 0, .int .i64 0, .int .i64 0, .int .i64 0, .int .i64 0, .bool false]) ?_ 6 _ rfl; (with_reducible repeat (first | refine blk_drewN ?_ _ | refine blk_drew ?_ | refine blk_alloc ?_ _)); refine blk_put (cs := #[.int .i64 0, .int .i64 0, .int .i64 0, .int .i64 0, .int .i64 0, .int .i64 0, .bool false]) ?_ 5 _ rfl; (with_reducible repeat (first | refine blk_drewN ?_ _ | refine blk_drew ?_ | refine blk_alloc ?_ _)); refine blk_put (cs := #[.int .i64 0, .int .i64 0, .int .i64 0, .int .i64 0, .int .i64 0, .int .i64 0, .bool false]) ?_ 4 _ rfl; (with_reducible repeat (first | refine blk_drewN ?_ _ | refine blk_drew ?_ | refine blk_alloc ?_ _)); refine blk_put (cs := #[.int .i64 0, .int .i64 0, .int .i64 0, .int .i64 0, .int .i64 0, .int .i64 0, .bool false]) ?_ 3 _ rfl; (with_reducible repeat (first | refine blk_drewN ?_ _ | refine blk_drew ?_ | refine blk_alloc ?_ _)); refine blk_put (cs := #[.int .i64 0, .int .i64 0, .int .i64 0, .int .i64 0, .int .i64 0, .int .i64 0, .bool false]) ?_ 2 _ rfl; (with_reducible repeat (first | refine blk_drewN ?_ _ | refine blk_drew ?_ | refine blk_alloc ?_ _)); refine blk_put (cs := #[.int .i64 0, .int .i64 0, .int .i64 0, .int .i64 0, .int .i64 0, .int .i64 0, .bool false]) ?_ 1 _ rfl; (with_reducible repeat (first | refine blk_drewN ?_ _ | refine blk_drew ?_ | refine blk_alloc ?_ _)); refine blk_put (cs := #[.int .i64 0, .int .i64 0, .int .i64 0, .int .i64 0, .int .i64 0, .int .i64 0, .bool false]) ?_ 0 _ rfl; (with_reducible repeat (first | refine blk_drewN ?_ _ | refine blk_drew ?_ | refine blk_alloc ?_ _)); refine blk_far ?_ NB129_128.out _; (with_reducible repeat (first | refine blk_drewN ?_ _ | refine blk_drew ?_ | refine blk_alloc ?_ _)); refine blk_far ?_ NB129_128.out _; (with_reducible repeat (first | refine blk_drewN ?_ _ | refine blk_drew ?_ | refine blk_alloc ?_ _)); refine blk_far ?_ NB129_128.out _; (with_reducible repeat (first | refine blk_drewN ?_ _ | refine blk_drew ?_ | refine blk_alloc ?_ _)); refine blk_far ?_ NB129_128.out _; (with_reducible repeat (first | refine blk_drewN ?_ _ | refine blk_drew ?_ | refine blk_alloc ?_ _)); refine blk_far ?_ NB129_128.out _; (with_reducible repeat (first | refine blk_drewN ?_ _ | refine blk_drew ?_ | refine blk_alloc ?_ _)); refine blk_far ?_ NB129_128.out _; (with_reducible repeat (first | refine blk_drewN ?_ _ | refine blk_drew ?_ | refine blk_alloc ?_ _)); refine blk_far ?_ NB129_128.out _; (with_reducible repeat (first | refine blk_drewN ?_ _ | refine blk_drew ?_ | refine blk_alloc ?_ _)); exact BK129.out) Try.underlying37 rfl (by kernel_rfl) (.tmp .nil)))) rfl ?_
        exact ⟨by first | rfl | (simp [errW_none, errW_some] <;> rfl) | (simp [*, errW_none, errW_some] <;> rfl), by repeat (first | (with_reducible first | exact HB.out | apply below_alloc | apply pw_below_drewN | apply below_drew1 | refine below_set ?_ GE127.out | refine below_set ?_ GE128.out | refine below_set ?_ GE129.out) | exact HB.out)⟩

end Go.Proofs.Ytoghjnmcimniaaa.Q
