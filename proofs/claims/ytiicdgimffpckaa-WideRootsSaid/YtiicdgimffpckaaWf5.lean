/- What Go functions answer, as Lean functions, and that they do: written by wip/xprint.py of this session (the kit's printer with turns, texts by hand among them). -/
import Derived.Test.YtiicdgimffpckaaW0
import Derived.Test.YtiicdgimffpckaaWd0
import Derived.Test.YtiicdgimffpckaaWf26
import Derived.Test.YtiicdgimffpckaaWf15
import Derived.Test.YtiicdgimffpckaaWf17
import Derived.Test.YtiicdgimffpckaaWf27
import Derived.Test.YtiicdgimffpckaaWf25
import Derived.Test.YtiicdgimffpckaaWf28
namespace Go.Proofs.Ytiicdgimffpckaa.W
open Go.RowKit Go.Proofs.YtiicdgimffpckaaW.PrintWords Go.Proofs.YtiicdgimffpckaaW.PrintLast Go.Proofs.YtiicdgimffpckaaW.PrintMore
attribute [local go_sem] max2_int min2_int max_two min_two max_three min_three max_four min_four   -- for this text's walks alone
set_option linter.unusedVariables false
set_option linter.unusedSimpArgs false

/-! ### calamuslaw01_WideRoots: function 5 -/
def calamuslaw01_WideRoots.T6 : Bool × List (List Nat × List Nat) := (true, [([], []), ([0], [0]), ([1], [1]), ([2], [2]), ([3, 2, 2], [2, 3]), ([2], [2]), ([5, 4, 2], [2, 5]), ([6, 6, 2], [2, 6]), ([4, 7, 2], [2, 4, 7]), ([2, 8], [2, 8]), ([9, 7, 0, 1, 2, 3, 4, 5, 6, 7, 8, 9], [9])])
def calamuslaw01_WideRoots.B6 : List Nat := [0, 1, 3, 7, 15, 7, 63, 127, 255, 511, 1023]
theorem calamuslaw01_WideRoots.tab6 : rtab .any (opsOf Try.f5 6) = calamuslaw01_WideRoots.T6 := by kernel_rfl
theorem calamuslaw01_WideRoots.bits6 : waitsOk calamuslaw01_WideRoots.T6.2 calamuslaw01_WideRoots.B6 = true := by kernel_rfl
set_option maxHeartbeats 8000000 in
set_option maxRecDepth 100000 in
theorem calamuslaw01_WideRoots.calls (k : Nat) (a0_0 : Int) (a0_1 : Int) (r : Bool) (w : World) (h : calamuslaw01_WideRoots.f k a0_0 a0_1 = some r) :
    Calls Try.prog 5 #[.agg #[.int .i64 a0_0, .int .u64 a0_1]] w fun e w' => e = .returned (.bool r) ∧ Below w.heap.size w w' := by
  have hu24 := Try.underlying24
  have HB := Aside0.mk (Below.refl w.heap.size w)
  have H : ((calamuslaw01_alive.f k).bind fun t483 => (if t483 = true then ((calamuslaw01_Two_own.f a0_0 a0_1).bind fun bt484 => ((wide_Root.f k bt484.1 bt484.2).bind fun bt486 => (if a0_0 < 0 then (if bt486.2 = 2 then (some (bt486.1 == 0)) else (none)) else (if bt486.2 = 0 then ((calamusref01_Of.f 0 bt486.1).bind fun bt488 => ((calamuslaw01_Two_ref.f a0_0 a0_1).bind fun bt496 => ((calamusref01_Root.f k bt496.1 bt496.2.1 bt496.2.2.1 bt496.2.2.2.1 bt496.2.2.2.2.1 bt496.2.2.2.2.2.1 bt496.2.2.2.2.2.2.1 bt496.2.2.2.2.2.2.2).bind fun bt504 => (if bt488.1 = bt504.1 then (if bt488.2.1 = bt504.2.1 then (if bt488.2.2.1 = bt504.2.2.1 then (if bt488.2.2.2.1 = bt504.2.2.2.1 then (if bt488.2.2.2.2.1 = bt504.2.2.2.2.1 then (if bt488.2.2.2.2.2.1 = bt504.2.2.2.2.2.1 then (if bt488.2.2.2.2.2.2.1 = bt504.2.2.2.2.2.2.1 then (if bt488.2.2.2.2.2.2.2 = bt504.2.2.2.2.2.2.2 then (some true) else (none)) else (none)) else (none)) else (none)) else (none)) else (none)) else (none)) else (none))))) else (none))))) else (none))) = some r := h
  clear h
  replace H := Option.bind_eq_some_iff.mp H
  obtain ⟨t483, A20, H⟩ := H
  replace H : (if t483 = true then ((calamuslaw01_Two_own.f a0_0 a0_1).bind fun bt484 => ((wide_Root.f k bt484.1 bt484.2).bind fun bt486 => (if a0_0 < 0 then (if bt486.2 = 2 then (some (bt486.1 == 0)) else (none)) else (if bt486.2 = 0 then ((calamusref01_Of.f 0 bt486.1).bind fun bt488 => ((calamuslaw01_Two_ref.f a0_0 a0_1).bind fun bt496 => ((calamusref01_Root.f k bt496.1 bt496.2.1 bt496.2.2.1 bt496.2.2.2.1 bt496.2.2.2.2.1 bt496.2.2.2.2.2.1 bt496.2.2.2.2.2.2.1 bt496.2.2.2.2.2.2.2).bind fun bt504 => (if bt488.1 = bt504.1 then (if bt488.2.1 = bt504.2.1 then (if bt488.2.2.1 = bt504.2.2.1 then (if bt488.2.2.2.1 = bt504.2.2.2.1 then (if bt488.2.2.2.2.1 = bt504.2.2.2.2.1 then (if bt488.2.2.2.2.2.1 = bt504.2.2.2.2.2.1 then (if bt488.2.2.2.2.2.2.1 = bt504.2.2.2.2.2.2.1 then (if bt488.2.2.2.2.2.2.2 = bt504.2.2.2.2.2.2.2 then (some true) else (none)) else (none)) else (none)) else (none)) else (none)) else (none)) else (none)) else (none))))) else (none))))) else (none)) = some r := H
  have A2 := Aside0.mk A20
  clear A20
  by_cases c3 : t483 = true
  · subst c3
    have H1 : ((calamuslaw01_Two_own.f a0_0 a0_1).bind fun bt484 => ((wide_Root.f k bt484.1 bt484.2).bind fun bt486 => (if a0_0 < 0 then (if bt486.2 = 2 then (some (bt486.1 == 0)) else (none)) else (if bt486.2 = 0 then ((calamusref01_Of.f 0 bt486.1).bind fun bt488 => ((calamuslaw01_Two_ref.f a0_0 a0_1).bind fun bt496 => ((calamusref01_Root.f k bt496.1 bt496.2.1 bt496.2.2.1 bt496.2.2.2.1 bt496.2.2.2.2.1 bt496.2.2.2.2.2.1 bt496.2.2.2.2.2.2.1 bt496.2.2.2.2.2.2.2).bind fun bt504 => (if bt488.1 = bt504.1 then (if bt488.2.1 = bt504.2.1 then (if bt488.2.2.1 = bt504.2.2.1 then (if bt488.2.2.2.1 = bt504.2.2.2.1 then (if bt488.2.2.2.2.1 = bt504.2.2.2.2.1 then (if bt488.2.2.2.2.2.1 = bt504.2.2.2.2.2.1 then (if bt488.2.2.2.2.2.2.1 = bt504.2.2.2.2.2.2.1 then (if bt488.2.2.2.2.2.2.2 = bt504.2.2.2.2.2.2.2 then (some true) else (none)) else (none)) else (none)) else (none)) else (none)) else (none)) else (none)) else (none))))) else (none))))) = some r := by rw [if_pos rfl] at H; exact H
    clear H
    have H := H1
    clear H1
    replace H := Option.bind_eq_some_iff.mp H
    obtain ⟨⟨t484, t485⟩, A40, H⟩ := H
    replace H : ((wide_Root.f k t484 t485).bind fun bt486 => (if a0_0 < 0 then (if bt486.2 = 2 then (some (bt486.1 == 0)) else (none)) else (if bt486.2 = 0 then ((calamusref01_Of.f 0 bt486.1).bind fun bt488 => ((calamuslaw01_Two_ref.f a0_0 a0_1).bind fun bt496 => ((calamusref01_Root.f k bt496.1 bt496.2.1 bt496.2.2.1 bt496.2.2.2.1 bt496.2.2.2.2.1 bt496.2.2.2.2.2.1 bt496.2.2.2.2.2.2.1 bt496.2.2.2.2.2.2.2).bind fun bt504 => (if bt488.1 = bt504.1 then (if bt488.2.1 = bt504.2.1 then (if bt488.2.2.1 = bt504.2.2.1 then (if bt488.2.2.2.1 = bt504.2.2.2.1 then (if bt488.2.2.2.2.1 = bt504.2.2.2.2.1 then (if bt488.2.2.2.2.2.1 = bt504.2.2.2.2.2.1 then (if bt488.2.2.2.2.2.2.1 = bt504.2.2.2.2.2.2.1 then (if bt488.2.2.2.2.2.2.2 = bt504.2.2.2.2.2.2.2 then (some true) else (none)) else (none)) else (none)) else (none)) else (none)) else (none)) else (none)) else (none))))) else (none)))) = some r := H
    have A4 := Aside0.mk A40
    clear A40
    replace H := Option.bind_eq_some_iff.mp H
    obtain ⟨⟨t486, t487⟩, A50, H⟩ := H
    replace H : (if a0_0 < 0 then (if t487 = 2 then (some (t486 == 0)) else (none)) else (if t487 = 0 then ((calamusref01_Of.f 0 t486).bind fun bt488 => ((calamuslaw01_Two_ref.f a0_0 a0_1).bind fun bt496 => ((calamusref01_Root.f k bt496.1 bt496.2.1 bt496.2.2.1 bt496.2.2.2.1 bt496.2.2.2.2.1 bt496.2.2.2.2.2.1 bt496.2.2.2.2.2.2.1 bt496.2.2.2.2.2.2.2).bind fun bt504 => (if bt488.1 = bt504.1 then (if bt488.2.1 = bt504.2.1 then (if bt488.2.2.1 = bt504.2.2.1 then (if bt488.2.2.2.1 = bt504.2.2.2.1 then (if bt488.2.2.2.2.1 = bt504.2.2.2.2.1 then (if bt488.2.2.2.2.2.1 = bt504.2.2.2.2.2.1 then (if bt488.2.2.2.2.2.2.1 = bt504.2.2.2.2.2.2.1 then (if bt488.2.2.2.2.2.2.2 = bt504.2.2.2.2.2.2.2 then (some true) else (none)) else (none)) else (none)) else (none)) else (none)) else (none)) else (none)) else (none))))) else (none))) = some r := H
    have A5 := Aside0.mk A50
    clear A50
    by_cases c6 : a0_0 < 0
    · rw [if_pos c6] at H
      have c6b0 : decide (a0_0 < 0) = true := decide_eq_true c6
      clear c6
      by_cases c7 : t487 = 2
      · rw [if_pos c7] at H
        have c7b0 : (t487 == 2) = true := beq_iff_eq.mpr c7
        have c7b1 : (t487 != 2) = false := bne_eq_false_iff_eq.mpr c7
        clear c7
        obtain rfl := Option.some.inj H
        go_enter Try.func5, Try.ntmps5
        go_wp2_with (first | ((with_reducible refine gate_dst (N := 1) rfl ?_); refine box_event ?hg (N := 1) ?hd (cs := #[.int .i64 a0_0, .int .u64 a0_1]) (t := 24) ?hr ?_; (case hd => rfl); (case hg => rfl); (case hr => first | (go_simp; done) | (go_simp; rfl)); intro gb482 hg w8 hbox hb; have n0_ := Aside0.mk (below_step (by repeat (first | (with_reducible first | exact HB.out | apply below_alloc | apply pw_below_drewN | apply below_drew1) | exact HB.out)) hb); have n1_ := Aside0.mk (hbox); have n2_ := Aside0.mk ((by rw [hg]; exact (below_size (by repeat (first | (with_reducible first | exact HB.out | apply below_alloc | apply pw_below_drewN | apply below_drew1) | exact HB.out))) : w.heap.size ≤ gb482)); have n3_ := Aside0.mk ((by rw [hg]; exact (below_size (by repeat (first | (with_reducible first | exact HB.out | apply below_alloc | apply pw_below_drewN | apply below_drew1) | exact HB.out))) : w.heap.size ≤ gb482)); clear HB; have HB := n0_; have BK482 := n1_; have GW482 := n2_; have GE482 := n3_; clear n0_ n1_ n2_ n3_; clear hb hbox hg) | ((with_reducible refine gate_callee (f := 15) rfl ?_); refine goesL_ (some 5) rfl rfl Try.func15 (by kernel_rfl) rfl #[] rfl (by (try simp only [List.map_toArray, List.map_cons, List.map_nil]); first | done | rfl | (simp only [List.length_drop, List.length_take]; rfl)) ?_; (with_reducible refine (calamuslaw01_alive.calls k  true _ A2.out).mono ?_); rintro e w9 ⟨rfl, hb⟩; refine ⟨_, rfl, ?_⟩; have n0_ := Aside0.mk (blk_below (g := gb482) (o := .cells #[.int .i64 a0_0, .int .u64 a0_1] 24 (0, 0)) (by (with_reducible repeat (first | refine blk_drewN ?_ _ | refine blk_drew ?_ | refine blk_alloc ?_ _)); exact BK482.out) hb); have n1_ := Aside0.mk (below_step (by repeat (first | (with_reducible first | exact HB.out | apply below_alloc | apply pw_below_drewN | apply below_drew1 | refine below_set ?_ GE482.out) | exact HB.out)) hb); clear BK482; clear HB; have BK482 := n0_; have HB := n1_; clear n0_ n1_; (try clear hb); (try clear hb2); (try clear hk); (try clear hi); have hcz10_0 : w9.cell? ⟨gb482, 0, none⟩ = some (.int .i64 a0_0) := (blk_cell BK482.out 0).trans rfl; have hcz10_1 : w9.cell? ⟨gb482, 1, none⟩ = some (.int .u64 a0_1) := (blk_cell BK482.out 1).trans rfl; have hfz10_0 := blk_frozen BK482.out 0; have hfz10_1 := blk_frozen BK482.out 1) | ((with_reducible refine gate_callee (f := 17) rfl ?_); refine goesL_ (some 9) rfl rfl Try.func17 (by kernel_rfl) rfl #[.agg #[.int .i64 a0_0, .int .u64 a0_1]] rfl (by (try simp only [List.map_toArray, List.map_cons, List.map_nil]); first | done | rfl | (simp only [List.length_drop, List.length_take]; rfl)) ?_; (with_reducible refine (calamuslaw01_Two_own.calls a0_0 a0_1 t484 t485 _ A4.out).mono ?_); rintro e w11 ⟨rfl, hb⟩; refine ⟨_, rfl, ?_⟩; have n0_ := Aside0.mk (blk_below (g := gb482) (o := .cells #[.int .i64 a0_0, .int .u64 a0_1] 24 (0, 0)) (by (with_reducible repeat (first | refine blk_drewN ?_ _ | refine blk_drew ?_ | refine blk_alloc ?_ _)); exact BK482.out) hb); have n1_ := Aside0.mk (below_step (by repeat (first | (with_reducible first | exact HB.out | apply below_alloc | apply pw_below_drewN | apply below_drew1 | refine below_set ?_ GE482.out) | exact HB.out)) hb); clear BK482; clear HB; have BK482 := n0_; have HB := n1_; clear n0_ n1_; (try clear hb); (try clear hb2); (try clear hk); (try clear hi)) | ((with_reducible refine gate_callee (f := 26) rfl ?_); refine goesL_ (some 10) rfl rfl Try.func26 (by kernel_rfl) rfl #[.agg #[.int .i64 t484, .int .u64 t485]] rfl (by (try simp only [List.map_toArray, List.map_cons, List.map_nil]); first | done | rfl | (simp only [List.length_drop, List.length_take]; rfl)) ?_; (with_reducible refine (wide_Root.calls k t484 t485 t486 t487 _ A5.out).mono ?_); rintro e w12 ⟨rfl, hb⟩; refine ⟨_, rfl, ?_⟩; have n0_ := Aside0.mk (blk_below (g := gb482) (o := .cells #[.int .i64 a0_0, .int .u64 a0_1] 24 (0, 0)) (by (with_reducible repeat (first | refine blk_drewN ?_ _ | refine blk_drew ?_ | refine blk_alloc ?_ _)); exact BK482.out) hb); have n1_ := Aside0.mk (below_step (by repeat (first | (with_reducible first | exact HB.out | apply below_alloc | apply pw_below_drewN | apply below_drew1 | refine below_set ?_ GE482.out) | exact HB.out)) hb); clear BK482; clear HB; have BK482 := n0_; have HB := n1_; clear n0_ n1_; (try clear hb); (try clear hb2); (try clear hk); (try clear hi); have hcz13_0 : w12.cell? ⟨gb482, 0, none⟩ = some (.int .i64 a0_0) := (blk_cell BK482.out 0).trans rfl; have hcz13_1 : w12.cell? ⟨gb482, 1, none⟩ = some (.int .u64 a0_1) := (blk_cell BK482.out 1).trans rfl; have hfz13_0 := blk_frozen BK482.out 0; have hfz13_1 := blk_frozen BK482.out 1))
        go_ret
        exact ⟨by first | rfl | (simp [errW_none, errW_some] <;> rfl) | (simp [*, errW_none, errW_some] <;> rfl), by repeat (first | (with_reducible first | exact HB.out | apply below_alloc | apply pw_below_drewN | apply below_drew1 | refine below_set ?_ GE482.out) | exact HB.out)⟩
      · rw [if_neg c7] at H
        exact absurd H (by simp)
    · rw [if_neg c6] at H
      have c6b0 : decide (a0_0 < 0) = false := decide_eq_false c6
      clear c6
      by_cases c14 : t487 = 0
      · rw [if_pos c14] at H
        have c14b0 : (t487 == 0) = true := beq_iff_eq.mpr c14
        have c14b1 : (t487 != 0) = false := bne_eq_false_iff_eq.mpr c14
        clear c14
        replace H := Option.bind_eq_some_iff.mp H
        obtain ⟨⟨t488, t489, t490, t491, t492, t493, t494, t495⟩, A150, H⟩ := H
        replace H : ((calamuslaw01_Two_ref.f a0_0 a0_1).bind fun bt496 => ((calamusref01_Root.f k bt496.1 bt496.2.1 bt496.2.2.1 bt496.2.2.2.1 bt496.2.2.2.2.1 bt496.2.2.2.2.2.1 bt496.2.2.2.2.2.2.1 bt496.2.2.2.2.2.2.2).bind fun bt504 => (if t488 = bt504.1 then (if t489 = bt504.2.1 then (if t490 = bt504.2.2.1 then (if t491 = bt504.2.2.2.1 then (if t492 = bt504.2.2.2.2.1 then (if t493 = bt504.2.2.2.2.2.1 then (if t494 = bt504.2.2.2.2.2.2.1 then (if t495 = bt504.2.2.2.2.2.2.2 then (some true) else (none)) else (none)) else (none)) else (none)) else (none)) else (none)) else (none)) else (none)))) = some r := H
        have A15 := Aside0.mk A150
        clear A150
        replace H := Option.bind_eq_some_iff.mp H
        obtain ⟨⟨t496, t497, t498, t499, t500, t501, t502, t503⟩, A160, H⟩ := H
        replace H : ((calamusref01_Root.f k t496 t497 t498 t499 t500 t501 t502 t503).bind fun bt504 => (if t488 = bt504.1 then (if t489 = bt504.2.1 then (if t490 = bt504.2.2.1 then (if t491 = bt504.2.2.2.1 then (if t492 = bt504.2.2.2.2.1 then (if t493 = bt504.2.2.2.2.2.1 then (if t494 = bt504.2.2.2.2.2.2.1 then (if t495 = bt504.2.2.2.2.2.2.2 then (some true) else (none)) else (none)) else (none)) else (none)) else (none)) else (none)) else (none)) else (none))) = some r := H
        have A16 := Aside0.mk A160
        clear A160
        replace H := Option.bind_eq_some_iff.mp H
        obtain ⟨⟨t504, t505, t506, t507, t508, t509, t510, t511⟩, A170, H⟩ := H
        replace H : (if t488 = t504 then (if t489 = t505 then (if t490 = t506 then (if t491 = t507 then (if t492 = t508 then (if t493 = t509 then (if t494 = t510 then (if t495 = t511 then (some true) else (none)) else (none)) else (none)) else (none)) else (none)) else (none)) else (none)) else (none)) = some r := H
        have A17 := Aside0.mk A170
        clear A170
        by_cases c18 : t488 = t504
        · rw [if_pos c18] at H
          have c18b0 : (t488 == t504) = true := beq_iff_eq.mpr c18
          have c18b1 : (t488 != t504) = false := bne_eq_false_iff_eq.mpr c18
          clear c18
          by_cases c19 : t489 = t505
          · rw [if_pos c19] at H
            have c19b0 : (t489 == t505) = true := beq_iff_eq.mpr c19
            have c19b1 : (t489 != t505) = false := bne_eq_false_iff_eq.mpr c19
            clear c19
            by_cases c20 : t490 = t506
            · rw [if_pos c20] at H
              have c20b0 : (t490 == t506) = true := beq_iff_eq.mpr c20
              have c20b1 : (t490 != t506) = false := bne_eq_false_iff_eq.mpr c20
              clear c20
              by_cases c21 : t491 = t507
              · rw [if_pos c21] at H
                have c21b0 : (t491 == t507) = true := beq_iff_eq.mpr c21
                have c21b1 : (t491 != t507) = false := bne_eq_false_iff_eq.mpr c21
                clear c21
                by_cases c22 : t492 = t508
                · rw [if_pos c22] at H
                  have c22b0 : (t492 == t508) = true := beq_iff_eq.mpr c22
                  have c22b1 : (t492 != t508) = false := bne_eq_false_iff_eq.mpr c22
                  clear c22
                  by_cases c23 : t493 = t509
                  · rw [if_pos c23] at H
                    have c23b0 : (t493 == t509) = true := beq_iff_eq.mpr c23
                    have c23b1 : (t493 != t509) = false := bne_eq_false_iff_eq.mpr c23
                    clear c23
                    by_cases c24 : t494 = t510
                    · rw [if_pos c24] at H
                      have c24b0 : (t494 == t510) = true := beq_iff_eq.mpr c24
                      have c24b1 : (t494 != t510) = false := bne_eq_false_iff_eq.mpr c24
                      clear c24
                      by_cases c25 : t495 = t511
                      · rw [if_pos c25] at H
                        have c25b0 : (t495 == t511) = true := beq_iff_eq.mpr c25
                        have c25b1 : (t495 != t511) = false := bne_eq_false_iff_eq.mpr c25
                        clear c25
                        obtain rfl := Option.some.inj H
                        go_enter Try.func5, Try.ntmps5
                        try go_wp2_with (first | ((with_reducible refine gate_dst (N := 1) rfl ?_); refine box_event ?hg (N := 1) ?hd (cs := #[.int .i64 a0_0, .int .u64 a0_1]) (t := 24) ?hr ?_; (case hd => rfl); (case hg => rfl); (case hr => first | (go_simp; done) | (go_simp; rfl)); intro gb482 hg w26 hbox hb; have n0_ := Aside0.mk (below_step (by repeat (first | (with_reducible first | exact HB.out | apply below_alloc | apply pw_below_drewN | apply below_drew1) | exact HB.out)) hb); have n1_ := Aside0.mk (hbox); have n2_ := Aside0.mk ((by rw [hg]; exact (below_size (by repeat (first | (with_reducible first | exact HB.out | apply below_alloc | apply pw_below_drewN | apply below_drew1) | exact HB.out))) : w.heap.size ≤ gb482)); have n3_ := Aside0.mk ((by rw [hg]; exact (below_size (by repeat (first | (with_reducible first | exact HB.out | apply below_alloc | apply pw_below_drewN | apply below_drew1) | exact HB.out))) : w.heap.size ≤ gb482)); clear HB; have HB := n0_; have BK482 := n1_; have GW482 := n2_; have GE482 := n3_; clear n0_ n1_ n2_ n3_; clear hb hbox hg) | ((with_reducible refine gate_callee (f := 15) rfl ?_); refine goesL_ (some 5) rfl rfl Try.func15 (by kernel_rfl) rfl #[] rfl (by (try simp only [List.map_toArray, List.map_cons, List.map_nil]); first | done | rfl | (simp only [List.length_drop, List.length_take]; rfl)) ?_; (with_reducible refine (calamuslaw01_alive.calls k  true _ A2.out).mono ?_); rintro e w27 ⟨rfl, hb⟩; refine ⟨_, rfl, ?_⟩; have n0_ := Aside0.mk (blk_below (g := gb482) (o := .cells #[.int .i64 a0_0, .int .u64 a0_1] 24 (0, 0)) (by (with_reducible repeat (first | refine blk_drewN ?_ _ | refine blk_drew ?_ | refine blk_alloc ?_ _)); exact BK482.out) hb); have n1_ := Aside0.mk (below_step (by repeat (first | (with_reducible first | exact HB.out | apply below_alloc | apply pw_below_drewN | apply below_drew1 | refine below_set ?_ GE482.out) | exact HB.out)) hb); clear BK482; clear HB; have BK482 := n0_; have HB := n1_; clear n0_ n1_; (try clear hb); (try clear hb2); (try clear hk); (try clear hi); have hcz28_0 : w27.cell? ⟨gb482, 0, none⟩ = some (.int .i64 a0_0) := (blk_cell BK482.out 0).trans rfl; have hcz28_1 : w27.cell? ⟨gb482, 1, none⟩ = some (.int .u64 a0_1) := (blk_cell BK482.out 1).trans rfl; have hfz28_0 := blk_frozen BK482.out 0; have hfz28_1 := blk_frozen BK482.out 1) | ((with_reducible refine gate_callee (f := 17) rfl ?_); refine goesL_ (some 9) rfl rfl Try.func17 (by kernel_rfl) rfl #[.agg #[.int .i64 a0_0, .int .u64 a0_1]] rfl (by (try simp only [List.map_toArray, List.map_cons, List.map_nil]); first | done | rfl | (simp only [List.length_drop, List.length_take]; rfl)) ?_; (with_reducible refine (calamuslaw01_Two_own.calls a0_0 a0_1 t484 t485 _ A4.out).mono ?_); rintro e w29 ⟨rfl, hb⟩; refine ⟨_, rfl, ?_⟩; have n0_ := Aside0.mk (blk_below (g := gb482) (o := .cells #[.int .i64 a0_0, .int .u64 a0_1] 24 (0, 0)) (by (with_reducible repeat (first | refine blk_drewN ?_ _ | refine blk_drew ?_ | refine blk_alloc ?_ _)); exact BK482.out) hb); have n1_ := Aside0.mk (below_step (by repeat (first | (with_reducible first | exact HB.out | apply below_alloc | apply pw_below_drewN | apply below_drew1 | refine below_set ?_ GE482.out) | exact HB.out)) hb); clear BK482; clear HB; have BK482 := n0_; have HB := n1_; clear n0_ n1_; (try clear hb); (try clear hb2); (try clear hk); (try clear hi)) | ((with_reducible refine gate_callee (f := 26) rfl ?_); refine goesL_ (some 10) rfl rfl Try.func26 (by kernel_rfl) rfl #[.agg #[.int .i64 t484, .int .u64 t485]] rfl (by (try simp only [List.map_toArray, List.map_cons, List.map_nil]); first | done | rfl | (simp only [List.length_drop, List.length_take]; rfl)) ?_; (with_reducible refine (wide_Root.calls k t484 t485 t486 t487 _ A5.out).mono ?_); rintro e w30 ⟨rfl, hb⟩; refine ⟨_, rfl, ?_⟩; have n0_ := Aside0.mk (blk_below (g := gb482) (o := .cells #[.int .i64 a0_0, .int .u64 a0_1] 24 (0, 0)) (by (with_reducible repeat (first | refine blk_drewN ?_ _ | refine blk_drew ?_ | refine blk_alloc ?_ _)); exact BK482.out) hb); have n1_ := Aside0.mk (below_step (by repeat (first | (with_reducible first | exact HB.out | apply below_alloc | apply pw_below_drewN | apply below_drew1 | refine below_set ?_ GE482.out) | exact HB.out)) hb); clear BK482; clear HB; have BK482 := n0_; have HB := n1_; clear n0_ n1_; (try clear hb); (try clear hb2); (try clear hk); (try clear hi); have hcz31_0 : w30.cell? ⟨gb482, 0, none⟩ = some (.int .i64 a0_0) := (blk_cell BK482.out 0).trans rfl; have hcz31_1 : w30.cell? ⟨gb482, 1, none⟩ = some (.int .u64 a0_1) := (blk_cell BK482.out 1).trans rfl; have hfz31_0 := blk_frozen BK482.out 0; have hfz31_1 := blk_frozen BK482.out 1))
                        have n0_ := Aside0.mk (blk_drew BK482.out)
                        have n1_ := Aside0.mk (below_drew1 HB.out)
                        clear BK482
                        clear HB
                        have BK482 := n0_
                        have HB := n1_
                        clear n0_ n1_
                        refine start_ (n := 11) (S := fun w' => w'.cell? ⟨gb482, 0, none⟩ = some (.int .i64 a0_0) ∧ w'.cell? ⟨gb482, 1, none⟩ = some (.int .u64 a0_1)) (ds := []) #[false, false, false, false, false, false, false, false, false, false, false] (by kernel_rfl) rfl rfl ⟨(blk_cell BK482.out 0).trans rfl, (blk_cell BK482.out 1).trans rfl⟩ (fun hHeld => ?_); refine with_tabW calamuslaw01_WideRoots.tab6 calamuslaw01_WideRoots.bits6 (fun HT_ HW_ => ?_)
                        generalize w30.drew = w32 at BK482 HB hHeld ⊢
                        refine pure_ (i := 0) (N := some 22) (v := ?_) (a' := ?_) #[true, false, false, false, false, false, false, false, false, false, false] rfl rfl (any_of HT_.out (by kernel_rfl)) (fun _ _ _ h => h) (Or.inl ⟨by rfl, ?_⟩) ?_ ?_
                        rotate_left
                        · intro w'
                          go_simp
                          with_reducible rfl
                        rotate_left
                        · simp only [Act.put, List.setIfInBounds_toArray, List.set_cons_zero, List.set_cons_succ, i64_w, i32_w]
                          rfl
                        refine pure_ (i := 1) (N := some 23) (v := ?_) (a' := ?_) #[true, true, false, false, false, false, false, false, false, false, false] rfl rfl (any_of HT_.out (by kernel_rfl)) (fun _ _ _ h => h) (Or.inl ⟨by rfl, ?_⟩) ?_ ?_
                        rotate_left
                        · intro w'
                          go_simp
                          with_reducible rfl
                        rotate_left
                        · simp only [Act.put, List.setIfInBounds_toArray, List.set_cons_zero, List.set_cons_succ, i64_w, i32_w]
                          rfl
                        refine pure_ (i := 2) (N := some 24) (v := ?_) (a' := ?_) #[true, true, true, false, false, false, false, false, false, false, false] rfl rfl (any_of HT_.out (by kernel_rfl)) (fun _ _ _ h => h) (Or.inl ⟨by rfl, ?_⟩) ?_ ?_
                        rotate_left
                        · intro w'
                          go_simp
                          with_reducible rfl
                        rotate_left
                        · simp only [Act.put, List.setIfInBounds_toArray, List.set_cons_zero, List.set_cons_succ, i64_w, i32_w]
                          rfl
                        refine pure_ (i := 3) (N := some 25) (v := ?_) (a' := ?_) #[true, true, true, true, false, false, false, false, false, false, false] rfl rfl (any_of HT_.out (by kernel_rfl)) (fun _ _ _ h => h) (Or.inl ⟨by rfl, ?_⟩) ?_ ?_
                        rotate_left
                        · intro w'
                          go_simp
                          with_reducible rfl
                        rotate_left
                        · simp only [Act.put, List.setIfInBounds_toArray, List.set_cons_zero, List.set_cons_succ, i64_w, i32_w]
                          rfl
                        refine take_ (i := 5) (N := some 27) (v := ?_) (a' := ?_) #[true, true, true, true, false, true, false, false, false, false, false] rfl rfl (take_ofW HT_.out HW_.out (by kernel_rfl)) (fun _ _ _ h => h) (Or.inl ⟨by rfl, ?_⟩) hHeld ?_ ?_
                        rotate_left
                        · rintro w' ⟨s0, s1⟩
                          go_simp
                          with_reducible rfl
                        rotate_left
                        · simp only [Act.put, List.setIfInBounds_toArray, List.set_cons_zero, List.set_cons_succ, i64_w, i32_w]
                          rfl
                        refine one_ (i := 4) (N := some 26) #[true, true, true, true, true, true, false, false, false, false, false] rfl rfl (one_of HT_.out (by kernel_rfl)) (by decide) (fun K hK => ?_)
                        refine goes_ Try.func27 (by kernel_rfl) rfl #[.int .i64 0, .int .u64 t486] (by rfl) rfl rfl (by (try simp only [List.map_toArray, List.map_cons, List.map_nil]); first | done | rfl | (simp only [List.length_drop, List.length_take]; rfl)) ?_
                        with_reducible refine (calamusref01_Of.calls 0 t486 t488 t489 t490 t491 t492 t493 t494 t495 _ A15.out).mono ?_
                        rintro e w33 ⟨rfl, hb⟩
                        refine ⟨_, rfl, ?_⟩
                        have n0_ := Aside0.mk (blk_below (g := gb482) (o := .cells #[.int .i64 a0_0, .int .u64 a0_1] 24 (0, 0)) (by (with_reducible repeat (first | refine blk_drewN ?_ _ | refine blk_drew ?_ | refine blk_alloc ?_ _)); exact BK482.out) hb)
                        have n1_ := Aside0.mk (below_step (by repeat (first | (with_reducible first | exact HB.out | apply below_alloc | apply pw_below_drewN | apply below_drew1 | refine below_set ?_ GE482.out) | exact HB.out)) hb)
                        clear BK482
                        clear HB
                        have BK482 := n0_
                        have HB := n1_
                        clear n0_ n1_
                        (try clear hb)
                        (try clear hb2)
                        (try clear hk)
                        (try clear hi)
                        refine hK.out _ _ ⟨(blk_cell BK482.out 0).trans rfl, (blk_cell BK482.out 1).trans rfl⟩ (fun hHeld => ?_)
                        clear hK K
                        refine norm_ (a' := ?_) ?_ ?_
                        rotate_left
                        · show Act.put _ (some 26) _ = _
                          simp only [Act.put, List.setIfInBounds_toArray, List.set_cons_zero, List.set_cons_succ, i64_w, i32_w]
                          rfl
                        refine one_ (i := 6) (N := some 28) #[true, true, true, true, true, true, true, false, false, false, false] rfl rfl (one_of HT_.out (by kernel_rfl)) (by decide) (fun K hK => ?_)
                        refine goes_ Try.func25 (by kernel_rfl) rfl #[.agg #[.int .i64 a0_0, .int .u64 a0_1]] (by rfl) rfl rfl (by (try simp only [List.map_toArray, List.map_cons, List.map_nil]); first | done | rfl | (simp only [List.length_drop, List.length_take]; rfl)) ?_
                        with_reducible refine (calamuslaw01_Two_ref.calls a0_0 a0_1 t496 t497 t498 t499 t500 t501 t502 t503 _ A16.out).mono ?_
                        rintro e w34 ⟨rfl, hb⟩
                        refine ⟨_, rfl, ?_⟩
                        have n0_ := Aside0.mk (blk_below (g := gb482) (o := .cells #[.int .i64 a0_0, .int .u64 a0_1] 24 (0, 0)) (by (with_reducible repeat (first | refine blk_drewN ?_ _ | refine blk_drew ?_ | refine blk_alloc ?_ _)); exact BK482.out) hb)
                        have n1_ := Aside0.mk (below_step (by repeat (first | (with_reducible first | exact HB.out | apply below_alloc | apply pw_below_drewN | apply below_drew1 | refine below_set ?_ GE482.out) | exact HB.out)) hb)
                        clear BK482
                        clear HB
                        have BK482 := n0_
                        have HB := n1_
                        clear n0_ n1_
                        (try clear hb)
                        (try clear hb2)
                        (try clear hk)
                        (try clear hi)
                        refine hK.out _ _ ⟨(blk_cell BK482.out 0).trans rfl, (blk_cell BK482.out 1).trans rfl⟩ (fun hHeld => ?_)
                        clear hK K
                        refine norm_ (a' := ?_) ?_ ?_
                        rotate_left
                        · show Act.put _ (some 28) _ = _
                          simp only [Act.put, List.setIfInBounds_toArray, List.set_cons_zero, List.set_cons_succ, i64_w, i32_w]
                          rfl
                        refine one_ (i := 7) (N := some 29) #[true, true, true, true, true, true, true, true, false, false, false] rfl rfl (one_of HT_.out (by kernel_rfl)) (by decide) (fun K hK => ?_)
                        refine goes_ Try.func28 (by kernel_rfl) rfl #[.agg #[.int .u32 t496, .int .u32 t497, .int .u32 t498, .int .u32 t499, .int .u32 t500, .int .u32 t501, .int .u32 t502, .int .u32 t503]] (by rfl) rfl rfl (by (try simp only [List.map_toArray, List.map_cons, List.map_nil]); first | done | rfl | (simp only [List.length_drop, List.length_take]; rfl)) ?_
                        with_reducible refine (calamusref01_Root.calls k t496 t497 t498 t499 t500 t501 t502 t503 t504 t505 t506 t507 t508 t509 t510 t511 _ A17.out).mono ?_
                        rintro e w35 ⟨rfl, hb⟩
                        refine ⟨_, rfl, ?_⟩
                        have n0_ := Aside0.mk (blk_below (g := gb482) (o := .cells #[.int .i64 a0_0, .int .u64 a0_1] 24 (0, 0)) (by (with_reducible repeat (first | refine blk_drewN ?_ _ | refine blk_drew ?_ | refine blk_alloc ?_ _)); exact BK482.out) hb)
                        have n1_ := Aside0.mk (below_step (by repeat (first | (with_reducible first | exact HB.out | apply below_alloc | apply pw_below_drewN | apply below_drew1 | refine below_set ?_ GE482.out) | exact HB.out)) hb)
                        clear BK482
                        clear HB
                        have BK482 := n0_
                        have HB := n1_
                        clear n0_ n1_
                        (try clear hb)
                        (try clear hb2)
                        (try clear hk)
                        (try clear hi)
                        refine hK.out _ _ ⟨(blk_cell BK482.out 0).trans rfl, (blk_cell BK482.out 1).trans rfl⟩ (fun hHeld => ?_)
                        clear hK K
                        refine norm_ (a' := ?_) ?_ ?_
                        rotate_left
                        · show Act.put _ (some 29) _ = _
                          simp only [Act.put, List.setIfInBounds_toArray, List.set_cons_zero, List.set_cons_succ, i64_w, i32_w]
                          rfl
                        refine pure_ (i := 8) (N := some 30) (v := ?_) (a' := ?_) #[true, true, true, true, true, true, true, true, true, false, false] rfl rfl (any_of HT_.out (by kernel_rfl)) (fun _ _ _ h => h) (Or.inl ⟨by rfl, ?_⟩) ?_ ?_
                        rotate_left
                        · intro w'
                          go_simp
                          with_reducible rfl
                        rotate_left
                        · simp only [Act.put, List.setIfInBounds_toArray, List.set_cons_zero, List.set_cons_succ, i64_w, i32_w]
                          rfl
                        refine pure_ (i := 9) (N := some 31) (v := ?_) (a' := ?_) #[true, true, true, true, true, true, true, true, true, true, false] rfl rfl (any_of HT_.out (by kernel_rfl)) (fun _ _ _ h => h) (Or.inl ⟨by rfl, ?_⟩) ?_ ?_
                        rotate_left
                        · intro w'
                          go_simp
                          with_reducible rfl
                        rotate_left
                        · simp only [Act.put, List.setIfInBounds_toArray, List.set_cons_zero, List.set_cons_succ, i64_w, i32_w]
                          rfl
                        refine pure_ (i := 10) (N := some 2) (v := ?_) (a' := ?_) #[true, true, true, true, true, true, true, true, true, true, true] rfl rfl (any_of HT_.out (by kernel_rfl)) (fun _ _ _ h => h) (Or.inl ⟨by rfl, ?_⟩) ?_ ?_
                        rotate_left
                        · intro w'
                          go_simp
                          with_reducible rfl
                        rotate_left
                        · simp only [Act.put, List.setIfInBounds_toArray, List.set_cons_zero, List.set_cons_succ, i64_w, i32_w]
                          rfl
                        refine done_ (done_of HT_.out (by kernel_rfl)) ?_
                        try go_wp2
                        go_ret
                        exact ⟨by first | rfl | (simp [errW_none, errW_some] <;> rfl) | (simp [*, errW_none, errW_some] <;> rfl), by repeat (first | (with_reducible first | exact HB.out | apply below_alloc | apply pw_below_drewN | apply below_drew1 | refine below_set ?_ GE482.out) | exact HB.out)⟩
                      · rw [if_neg c25] at H
                        exact absurd H (by simp)
                    · rw [if_neg c24] at H
                      exact absurd H (by simp)
                  · rw [if_neg c23] at H
                    exact absurd H (by simp)
                · rw [if_neg c22] at H
                  exact absurd H (by simp)
              · rw [if_neg c21] at H
                exact absurd H (by simp)
            · rw [if_neg c20] at H
              exact absurd H (by simp)
          · rw [if_neg c19] at H
            exact absurd H (by simp)
        · rw [if_neg c18] at H
          exact absurd H (by simp)
      · rw [if_neg c14] at H
        exact absurd H (by simp)
  · replace c3 := Bool.eq_false_iff.mpr c3
    subst c3
    have H1 : (none) = some r := by rw [if_neg (show ¬ (false = true) by decide)] at H; exact H
    clear H
    have H := H1
    clear H1
    exact absurd H (by simp)

end Go.Proofs.Ytiicdgimffpckaa.W
