/- What Go functions answer, as Lean functions, and that they do: written by wip/xprint.py of this session (the kit's printer with turns, texts by hand among them). -/
import Derived.Test.YtiicdgimffpckaaW0
import Derived.Test.YtiicdgimffpckaaWe0
import Derived.Test.YtiicdgimffpckaaWd0
import Derived.Test.YtiicdgimffpckaaWf19
import Derived.Test.YtiicdgimffpckaaWf16
import Derived.Test.YtiicdgimffpckaaWf21
import Derived.Test.YtiicdgimffpckaaWf23
import Derived.Test.YtiicdgimffpckaaWf15
import Derived.Test.YtiicdgimffpckaaWf32
namespace Go.Proofs.Ytiicdgimffpckaa.W
open Go.RowKit Go.Proofs.YtiicdgimffpckaaW.PrintWords Go.Proofs.YtiicdgimffpckaaW.PrintLast Go.Proofs.YtiicdgimffpckaaW.PrintMore
attribute [local go_sem] max2_int min2_int max_two min_two max_three min_three max_four min_four   -- for this text's walks alone
set_option linter.unusedVariables false
set_option linter.unusedSimpArgs false

attribute [local go_sem high] eqA28
/-! ### calamuslaw01_WideBack: function 7 -/
set_option maxHeartbeats 8000000 in
set_option maxRecDepth 100000 in
theorem calamuslaw01_WideBack.calls (k : Nat) (a0 : Int) (a1 : Int) (r : Bool) (w : World) (h : calamuslaw01_WideBack.f k a0 a1 = some r) :
    Calls Try.prog 7 #[.int .i64 a0, .int .i64 a1] w fun e w' => e = .returned (.bool r) ∧ Below w.heap.size w w' := by
  have hu28 := Try.underlying28
  have HB := Aside0.mk (Below.refl w.heap.size w)
  have H : ((calamuslaw01_alive.f k).bind fun t524 => (if t524 = true then (if a1 < 1 then (some true) else ((wide_Of.f a0).bind fun bt525 => ((wide_Div.f k bt525.1 bt525.2 a1).bind fun bt527 => ((wide_Small.f bt527.1 bt527.2.1).bind fun bt532 => (if bt527.2.2.2 = 0 then (if bt532.2 = true then (if bt527.2.2.1 ≥ 0 then (if bt527.2.2.1 < a1 then ((wide_Mul.f bt532.1 a1).bind fun bt534 => ((wide_Of.f bt527.2.2.1).bind fun bt536 => ((wide_Add.f bt534.1 bt534.2 bt536.1 bt536.2).bind fun bt538 => ((wide_Of.f a0).bind fun bt540 => (some (bt538.1 == bt540.1 && (bt538.2 == bt540.2))))))) else (none)) else (none)) else (none)) else (none)))))) else (none))) = some r := h
  clear h
  replace H := Option.bind_eq_some_iff.mp H
  obtain ⟨t524, A30, H⟩ := H
  replace H : (if t524 = true then (if a1 < 1 then (some true) else ((wide_Of.f a0).bind fun bt525 => ((wide_Div.f k bt525.1 bt525.2 a1).bind fun bt527 => ((wide_Small.f bt527.1 bt527.2.1).bind fun bt532 => (if bt527.2.2.2 = 0 then (if bt532.2 = true then (if bt527.2.2.1 ≥ 0 then (if bt527.2.2.1 < a1 then ((wide_Mul.f bt532.1 a1).bind fun bt534 => ((wide_Of.f bt527.2.2.1).bind fun bt536 => ((wide_Add.f bt534.1 bt534.2 bt536.1 bt536.2).bind fun bt538 => ((wide_Of.f a0).bind fun bt540 => (some (bt538.1 == bt540.1 && (bt538.2 == bt540.2))))))) else (none)) else (none)) else (none)) else (none)))))) else (none)) = some r := H
  have A3 := Aside0.mk A30
  clear A30
  by_cases c4 : t524 = true
  · subst c4
    have H1 : (if a1 < 1 then (some true) else ((wide_Of.f a0).bind fun bt525 => ((wide_Div.f k bt525.1 bt525.2 a1).bind fun bt527 => ((wide_Small.f bt527.1 bt527.2.1).bind fun bt532 => (if bt527.2.2.2 = 0 then (if bt532.2 = true then (if bt527.2.2.1 ≥ 0 then (if bt527.2.2.1 < a1 then ((wide_Mul.f bt532.1 a1).bind fun bt534 => ((wide_Of.f bt527.2.2.1).bind fun bt536 => ((wide_Add.f bt534.1 bt534.2 bt536.1 bt536.2).bind fun bt538 => ((wide_Of.f a0).bind fun bt540 => (some (bt538.1 == bt540.1 && (bt538.2 == bt540.2))))))) else (none)) else (none)) else (none)) else (none)))))) = some r := by rw [if_pos rfl] at H; exact H
    clear H
    have H := H1
    clear H1
    by_cases c5 : a1 < 1
    · rw [if_pos c5] at H
      have c5b0 : decide (a1 < 1) = true := decide_eq_true c5
      clear c5
      obtain rfl := Option.some.inj H
      go_enter Try.func7, Try.ntmps7
      go_wp2_with (first | ((with_reducible refine gate_callee (f := 15) rfl ?_); refine goesL_ (some 10) rfl rfl Try.func15 (by kernel_rfl) rfl #[] rfl (by (try simp only [List.map_toArray, List.map_cons, List.map_nil]); first | done | rfl | (simp only [List.length_drop, List.length_take]; rfl)) ?_; (with_reducible refine (calamuslaw01_alive.calls k  true _ A3.out).mono ?_); rintro e w6 ⟨rfl, hb⟩; refine ⟨_, rfl, ?_⟩; have n0_ := Aside0.mk (below_step (by repeat (first | (with_reducible first | exact HB.out | apply below_alloc | apply pw_below_drewN | apply below_drew1) | exact HB.out)) hb); clear HB; have HB := n0_; clear n0_; (try clear hb); (try clear hb2); (try clear hk); (try clear hi)))
      go_ret
      exact ⟨by first | rfl | (simp [errW_none, errW_some] <;> rfl) | (simp [*, errW_none, errW_some] <;> rfl), by repeat (first | (with_reducible first | exact HB.out | apply below_alloc | apply pw_below_drewN | apply below_drew1) | exact HB.out)⟩
    · rw [if_neg c5] at H
      have c5b0 : decide (a1 < 1) = false := decide_eq_false c5
      clear c5
      replace H := Option.bind_eq_some_iff.mp H
      obtain ⟨⟨t525, t526⟩, A70, H⟩ := H
      replace H : ((wide_Div.f k t525 t526 a1).bind fun bt527 => ((wide_Small.f bt527.1 bt527.2.1).bind fun bt532 => (if bt527.2.2.2 = 0 then (if bt532.2 = true then (if bt527.2.2.1 ≥ 0 then (if bt527.2.2.1 < a1 then ((wide_Mul.f bt532.1 a1).bind fun bt534 => ((wide_Of.f bt527.2.2.1).bind fun bt536 => ((wide_Add.f bt534.1 bt534.2 bt536.1 bt536.2).bind fun bt538 => ((wide_Of.f a0).bind fun bt540 => (some (bt538.1 == bt540.1 && (bt538.2 == bt540.2))))))) else (none)) else (none)) else (none)) else (none)))) = some r := H
      have A7 := Aside0.mk A70
      clear A70
      replace H := Option.bind_eq_some_iff.mp H
      obtain ⟨⟨t527, t528, t529, t530⟩, A80, H⟩ := H
      replace H : ((wide_Small.f t527 t528).bind fun bt532 => (if t530 = 0 then (if bt532.2 = true then (if t529 ≥ 0 then (if t529 < a1 then ((wide_Mul.f bt532.1 a1).bind fun bt534 => ((wide_Of.f t529).bind fun bt536 => ((wide_Add.f bt534.1 bt534.2 bt536.1 bt536.2).bind fun bt538 => ((wide_Of.f a0).bind fun bt540 => (some (bt538.1 == bt540.1 && (bt538.2 == bt540.2))))))) else (none)) else (none)) else (none)) else (none))) = some r := H
      have A8 := Aside0.mk A80
      clear A80
      replace H := Option.bind_eq_some_iff.mp H
      obtain ⟨⟨t532, t533⟩, A90, H⟩ := H
      replace H : (if t530 = 0 then (if t533 = true then (if t529 ≥ 0 then (if t529 < a1 then ((wide_Mul.f t532 a1).bind fun bt534 => ((wide_Of.f t529).bind fun bt536 => ((wide_Add.f bt534.1 bt534.2 bt536.1 bt536.2).bind fun bt538 => ((wide_Of.f a0).bind fun bt540 => (some (bt538.1 == bt540.1 && (bt538.2 == bt540.2))))))) else (none)) else (none)) else (none)) else (none)) = some r := H
      have A9 := Aside0.mk A90
      clear A90
      by_cases c10 : t530 = 0
      · rw [if_pos c10] at H
        have c10b0 : (t530 == 0) = true := beq_iff_eq.mpr c10
        have c10b1 : (t530 != 0) = false := bne_eq_false_iff_eq.mpr c10
        clear c10
        by_cases c11 : t533 = true
        · subst c11
          have H1 : (if t529 ≥ 0 then (if t529 < a1 then ((wide_Mul.f t532 a1).bind fun bt534 => ((wide_Of.f t529).bind fun bt536 => ((wide_Add.f bt534.1 bt534.2 bt536.1 bt536.2).bind fun bt538 => ((wide_Of.f a0).bind fun bt540 => (some (bt538.1 == bt540.1 && (bt538.2 == bt540.2))))))) else (none)) else (none)) = some r := by rw [if_pos rfl] at H; exact H
          clear H
          have H := H1
          clear H1
          by_cases c12 : t529 ≥ 0
          · rw [if_pos c12] at H
            have c12b0 : decide (0 ≤ t529) = true := decide_eq_true c12
            clear c12
            by_cases c13 : t529 < a1
            · rw [if_pos c13] at H
              have c13b0 : decide (t529 < a1) = true := decide_eq_true c13
              clear c13
              replace H := Option.bind_eq_some_iff.mp H
              obtain ⟨⟨t534, t535⟩, A140, H⟩ := H
              replace H : ((wide_Of.f t529).bind fun bt536 => ((wide_Add.f t534 t535 bt536.1 bt536.2).bind fun bt538 => ((wide_Of.f a0).bind fun bt540 => (some (bt538.1 == bt540.1 && (bt538.2 == bt540.2)))))) = some r := H
              have A14 := Aside0.mk A140
              clear A140
              replace H := Option.bind_eq_some_iff.mp H
              obtain ⟨⟨t536, t537⟩, A150, H⟩ := H
              replace H : ((wide_Add.f t534 t535 t536 t537).bind fun bt538 => ((wide_Of.f a0).bind fun bt540 => (some (bt538.1 == bt540.1 && (bt538.2 == bt540.2))))) = some r := H
              have A15 := Aside0.mk A150
              clear A150
              replace H := Option.bind_eq_some_iff.mp H
              obtain ⟨⟨t538, t539⟩, A160, H⟩ := H
              replace H : ((wide_Of.f a0).bind fun bt540 => (some (t538 == bt540.1 && (t539 == bt540.2)))) = some r := H
              have A16 := Aside0.mk A160
              clear A160
              replace H := Option.bind_eq_some_iff.mp H
              obtain ⟨⟨t540, t541⟩, A170, H⟩ := H
              replace H : (some (t538 == t540 && (t539 == t541))) = some r := H
              have A17 := Aside0.mk A170
              clear A170
              obtain rfl := Option.some.inj H
              go_enter Try.func7, Try.ntmps7
              go_wp2_with (first | ((with_reducible refine gate_callee (f := 15) rfl ?_); refine goesL_ (some 10) rfl rfl Try.func15 (by kernel_rfl) rfl #[] rfl (by (try simp only [List.map_toArray, List.map_cons, List.map_nil]); first | done | rfl | (simp only [List.length_drop, List.length_take]; rfl)) ?_; (with_reducible refine (calamuslaw01_alive.calls k  true _ A3.out).mono ?_); rintro e w18 ⟨rfl, hb⟩; refine ⟨_, rfl, ?_⟩; have n0_ := Aside0.mk (below_step (by repeat (first | (with_reducible first | exact HB.out | apply below_alloc | apply pw_below_drewN | apply below_drew1) | exact HB.out)) hb); clear HB; have HB := n0_; clear n0_; (try clear hb); (try clear hb2); (try clear hk); (try clear hi)) | ((with_reducible refine gate_callee (f := 19) rfl ?_); refine goesL_ (some 16) rfl rfl Try.func19 (by kernel_rfl) rfl #[.int .i64 a0] rfl (by (try simp only [List.map_toArray, List.map_cons, List.map_nil]); first | done | rfl | (simp only [List.length_drop, List.length_take]; rfl)) ?_; (with_reducible refine (wide_Of.calls a0 t525 t526 _ A7.out).mono ?_); rintro e w19 ⟨rfl, hb⟩; refine ⟨_, rfl, ?_⟩; have n0_ := Aside0.mk (below_step (by repeat (first | (with_reducible first | exact HB.out | apply below_alloc | apply pw_below_drewN | apply below_drew1) | exact HB.out)) hb); clear HB; have HB := n0_; clear n0_; (try clear hb); (try clear hb2); (try clear hk); (try clear hi)) | ((with_reducible refine gate_callee (f := 23) rfl ?_); refine goesL_ (some 18) rfl rfl Try.func23 (by kernel_rfl) rfl #[.agg #[.int .i64 t525, .int .u64 t526], .int .i64 a1] rfl (by (try simp only [List.map_toArray, List.map_cons, List.map_nil]); first | done | rfl | (simp only [List.length_drop, List.length_take]; rfl)) ?_; (with_reducible refine (wide_Div.calls k t525 t526 a1 t527 t528 t529 t530 _ A8.out).mono ?_); rintro e w20 ⟨rfl, hb⟩; refine ⟨_, rfl, ?_⟩; have n0_ := Aside0.mk (below_step (by repeat (first | (with_reducible first | exact HB.out | apply below_alloc | apply pw_below_drewN | apply below_drew1) | exact HB.out)) hb); clear HB; have HB := n0_; clear n0_; (try clear hb); (try clear hb2); (try clear hk); (try clear hi)) | ((with_reducible refine gate_dst (N := 5) rfl ?_); refine box_event ?hg (N := 5) ?hd (cs := #[.int .i64 0, .int .u64 0]) (t := 28) ?hr ?_; (case hd => rfl); (case hg => rfl); (case hr => first | (go_simp; done) | (go_simp; rfl)); intro gb531 hg w21 hbox hb; have n0_ := Aside0.mk (below_step (by repeat (first | (with_reducible first | exact HB.out | apply below_alloc | apply pw_below_drewN | apply below_drew1) | exact HB.out)) hb); have n1_ := Aside0.mk (hbox); have n2_ := Aside0.mk ((by rw [hg]; exact (below_size (by repeat (first | (with_reducible first | exact HB.out | apply below_alloc | apply pw_below_drewN | apply below_drew1) | exact HB.out))) : w.heap.size ≤ gb531)); have n3_ := Aside0.mk ((by rw [hg]; exact (below_size (by repeat (first | (with_reducible first | exact HB.out | apply below_alloc | apply pw_below_drewN | apply below_drew1) | exact HB.out))) : w.heap.size ≤ gb531)); clear HB; have HB := n0_; have BK531 := n1_; have GW531 := n2_; have GE531 := n3_; clear n0_ n1_ n2_ n3_; clear hb hbox hg; have hcz22_0 : w21.cell? ⟨gb531, 0, none⟩ = some (.int .i64 0) := (blk_cell BK531.out 0).trans rfl; have hcz22_1 : w21.cell? ⟨gb531, 1, none⟩ = some (.int .u64 0) := (blk_cell BK531.out 1).trans rfl; have hfz22_0 := blk_frozen BK531.out 0; have hfz22_1 := blk_frozen BK531.out 1) | ((with_reducible refine gate_callee (f := 16) rfl ?_); refine goesL_ (some 24) rfl rfl Try.func16 (by kernel_rfl) rfl #[.agg #[.int .i64 t527, .int .u64 t528]] rfl (by (try simp only [List.map_toArray, List.map_cons, List.map_nil]); first | done | rfl | (simp only [List.length_drop, List.length_take]; rfl)) ?_; (with_reducible refine (wide_Small.calls t527 t528 t532 true _ A9.out).mono ?_); rintro e w23 ⟨rfl, hb⟩; refine ⟨_, rfl, ?_⟩; have n0_ := Aside0.mk (blk_below (g := gb531) (o := .cells #[.int .i64 t527, .int .u64 t528] 28 (0, 0)) (by (with_reducible repeat (first | refine blk_drewN ?_ _ | refine blk_drew ?_ | refine blk_alloc ?_ _)); refine blk_put (cs := #[.int .i64 t527, .int .u64 0]) ?_ 1 _ rfl; (with_reducible repeat (first | refine blk_drewN ?_ _ | refine blk_drew ?_ | refine blk_alloc ?_ _)); refine blk_put (cs := #[.int .i64 0, .int .u64 0]) ?_ 0 _ rfl; (with_reducible repeat (first | refine blk_drewN ?_ _ | refine blk_drew ?_ | refine blk_alloc ?_ _)); exact BK531.out) hb); have n1_ := Aside0.mk (below_step (by repeat (first | (with_reducible first | exact HB.out | apply below_alloc | apply pw_below_drewN | apply below_drew1 | refine below_set ?_ GE531.out) | exact HB.out)) hb); clear BK531; clear HB; have BK531 := n0_; have HB := n1_; clear n0_ n1_; (try clear hb); (try clear hb2); (try clear hk); (try clear hi)) | (go_at_call 21; (with_reducible refine (wide_Mul.calls t532 a1 t534 t535 _ A14.out).mono ?_); rintro e w24 ⟨rfl, hb⟩; have n0_ := Aside0.mk (blk_below (g := gb531) (o := .cells #[.int .i64 t527, .int .u64 t528] 28 (0, 0)) (by (with_reducible repeat (first | refine blk_drewN ?_ _ | refine blk_drew ?_ | refine blk_alloc ?_ _)); exact BK531.out) hb); have n1_ := Aside0.mk (below_step (by repeat (first | (with_reducible first | exact HB.out | apply below_alloc | apply pw_below_drewN | apply below_drew1 | refine below_set ?_ GE531.out) | exact HB.out)) hb); clear BK531; clear HB; have BK531 := n0_; have HB := n1_; clear n0_ n1_; (try clear hb); (try clear hb2); (try clear hk); (try clear hi)) | (go_at_call 19; (with_reducible refine (wide_Of.calls t529 t536 t537 _ A15.out).mono ?_); rintro e w25 ⟨rfl, hb⟩; have n0_ := Aside0.mk (blk_below (g := gb531) (o := .cells #[.int .i64 t527, .int .u64 t528] 28 (0, 0)) (by (with_reducible repeat (first | refine blk_drewN ?_ _ | refine blk_drew ?_ | refine blk_alloc ?_ _)); exact BK531.out) hb); have n1_ := Aside0.mk (below_step (by repeat (first | (with_reducible first | exact HB.out | apply below_alloc | apply pw_below_drewN | apply below_drew1 | refine below_set ?_ GE531.out) | exact HB.out)) hb); clear BK531; clear HB; have BK531 := n0_; have HB := n1_; clear n0_ n1_; (try clear hb); (try clear hb2); (try clear hk); (try clear hi)) | (go_at_call 32; (with_reducible refine (wide_Add.calls t534 t535 t536 t537 t538 t539 _ A16.out).mono ?_); rintro e w26 ⟨rfl, hb⟩; have n0_ := Aside0.mk (blk_below (g := gb531) (o := .cells #[.int .i64 t527, .int .u64 t528] 28 (0, 0)) (by (with_reducible repeat (first | refine blk_drewN ?_ _ | refine blk_drew ?_ | refine blk_alloc ?_ _)); exact BK531.out) hb); have n1_ := Aside0.mk (below_step (by repeat (first | (with_reducible first | exact HB.out | apply below_alloc | apply pw_below_drewN | apply below_drew1 | refine below_set ?_ GE531.out) | exact HB.out)) hb); clear BK531; clear HB; have BK531 := n0_; have HB := n1_; clear n0_ n1_; (try clear hb); (try clear hb2); (try clear hk); (try clear hi)) | (go_at_call 19; (with_reducible refine (wide_Of.calls a0 t540 t541 _ A17.out).mono ?_); rintro e w27 ⟨rfl, hb⟩; have n0_ := Aside0.mk (blk_below (g := gb531) (o := .cells #[.int .i64 t527, .int .u64 t528] 28 (0, 0)) (by (with_reducible repeat (first | refine blk_drewN ?_ _ | refine blk_drew ?_ | refine blk_alloc ?_ _)); exact BK531.out) hb); have n1_ := Aside0.mk (below_step (by repeat (first | (with_reducible first | exact HB.out | apply below_alloc | apply pw_below_drewN | apply below_drew1 | refine below_set ?_ GE531.out) | exact HB.out)) hb); clear BK531; clear HB; have BK531 := n0_; have HB := n1_; clear n0_ n1_; (try clear hb); (try clear hb2); (try clear hk); (try clear hi)))
              go_ret
              exact ⟨by first | rfl | (simp [errW_none, errW_some] <;> rfl) | (simp [*, errW_none, errW_some] <;> rfl), by repeat (first | (with_reducible first | exact HB.out | apply below_alloc | apply pw_below_drewN | apply below_drew1 | refine below_set ?_ GE531.out) | exact HB.out)⟩
            · rw [if_neg c13] at H
              exact absurd H (by simp)
          · rw [if_neg c12] at H
            exact absurd H (by simp)
        · replace c11 := Bool.eq_false_iff.mpr c11
          subst c11
          have H1 : (none) = some r := by rw [if_neg (show ¬ (false = true) by decide)] at H; exact H
          clear H
          have H := H1
          clear H1
          exact absurd H (by simp)
      · rw [if_neg c10] at H
        exact absurd H (by simp)
  · replace c4 := Bool.eq_false_iff.mpr c4
    subst c4
    have H1 : (none) = some r := by rw [if_neg (show ¬ (false = true) by decide)] at H; exact H
    clear H
    have H := H1
    clear H1
    exact absurd H (by simp)

end Go.Proofs.Ytiicdgimffpckaa.W
