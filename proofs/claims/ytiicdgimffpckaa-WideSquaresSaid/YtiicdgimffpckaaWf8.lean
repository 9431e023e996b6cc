/- What Go functions answer, as Lean functions, and that they do: written by wip/xprint.py of this session (the kit's printer with turns, texts by hand among them). -/
import Derived.Test.YtiicdgimffpckaaW0
import Derived.Test.YtiicdgimffpckaaWd0
import Derived.Test.YtiicdgimffpckaaWf19
import Derived.Test.YtiicdgimffpckaaWf21
import Derived.Test.YtiicdgimffpckaaWf26
import Derived.Test.YtiicdgimffpckaaWf15
import Derived.Test.YtiicdgimffpckaaWf32
namespace Go.Proofs.Ytiicdgimffpckaa.W
open Go.RowKit Go.Proofs.YtiicdgimffpckaaW.PrintWords Go.Proofs.YtiicdgimffpckaaW.PrintLast Go.Proofs.YtiicdgimffpckaaW.PrintMore
attribute [local go_sem] max2_int min2_int max_two min_two max_three min_three max_four min_four   -- for this text's walks alone
set_option linter.unusedVariables false
set_option linter.unusedSimpArgs false

/-! ### calamuslaw01_WideSquares: function 8 -/
def calamuslaw01_WideSquares.T4 : Bool × List (List Nat × List Nat) := (true, [([], []), ([], []), ([1], [1]), ([], []), ([3], [3]), ([4], [4]), ([5], [5]), ([2, 6], [2, 6]), ([7], [7]), ([8], [8]), ([0, 9, 9], [0, 9]), ([], []), ([11, 10, 10, 0, 1, 2, 3, 4, 5, 6, 7, 8, 9, 10, 11], [10, 11])])
def calamuslaw01_WideSquares.B4 : List Nat := [0, 0, 2, 0, 8, 24, 56, 126, 254, 510, 1023, 0, 4095]
theorem calamuslaw01_WideSquares.tab4 : rtab .any (opsOf Try.f8 4) = calamuslaw01_WideSquares.T4 := by kernel_rfl
theorem calamuslaw01_WideSquares.bits4 : waitsOk calamuslaw01_WideSquares.T4.2 calamuslaw01_WideSquares.B4 = true := by kernel_rfl
set_option maxHeartbeats 8000000 in
set_option maxRecDepth 100000 in
theorem calamuslaw01_WideSquares.calls (k : Nat) (a0 : Int) (a1 : Int) (r : Bool) (w : World) (h : calamuslaw01_WideSquares.f k a0 a1 = some r) :
    Calls Try.prog 8 #[.int .u32 a0, .int .u32 a1] w fun e w' => e = .returned (.bool r) ∧ Below w.heap.size w w' := by
  have hu28 := Try.underlying28
  have HB := Aside0.mk (Below.refl w.heap.size w)
  have H : ((calamuslaw01_alive.f k).bind fun t542 => (if t542 = true then ((wide_Mul.f (wrap64 (a0)) (wrap64 (a0))).bind fun bt543 => (if (IntKind.u64.wrap ((IntKind.u64.wrap (2 * (IntKind.u64.wrap (a0)))) + 1)) = 0 then (none) else ((wide_Of.f (wrap64 (Int.tmod (IntKind.u64.wrap (a1)) (IntKind.u64.wrap ((IntKind.u64.wrap (2 * (IntKind.u64.wrap (a0)))) + 1))))).bind fun bt546 => ((wide_Add.f bt543.1 bt543.2 bt546.1 bt546.2).bind fun bt548 => ((wide_Root.f k bt543.1 bt543.2).bind fun bt551 => ((wide_Root.f k bt548.1 bt548.2).bind fun bt553 => (if bt551.2 = 0 then (if bt553.2 = 0 then (if bt551.1 = (IntKind.u64.wrap (a0)) then (some (bt553.1 == (IntKind.u64.wrap (a0)))) else (none)) else (none)) else (none)))))))) else (none))) = some r := h
  clear h
  replace H := Option.bind_eq_some_iff.mp H
  obtain ⟨t542, A30, H⟩ := H
  replace H : (if t542 = true then ((wide_Mul.f (wrap64 (a0)) (wrap64 (a0))).bind fun bt543 => (if (IntKind.u64.wrap ((IntKind.u64.wrap (2 * (IntKind.u64.wrap (a0)))) + 1)) = 0 then (none) else ((wide_Of.f (wrap64 (Int.tmod (IntKind.u64.wrap (a1)) (IntKind.u64.wrap ((IntKind.u64.wrap (2 * (IntKind.u64.wrap (a0)))) + 1))))).bind fun bt546 => ((wide_Add.f bt543.1 bt543.2 bt546.1 bt546.2).bind fun bt548 => ((wide_Root.f k bt543.1 bt543.2).bind fun bt551 => ((wide_Root.f k bt548.1 bt548.2).bind fun bt553 => (if bt551.2 = 0 then (if bt553.2 = 0 then (if bt551.1 = (IntKind.u64.wrap (a0)) then (some (bt553.1 == (IntKind.u64.wrap (a0)))) else (none)) else (none)) else (none)))))))) else (none)) = some r := H
  have A3 := Aside0.mk A30
  clear A30
  by_cases c4 : t542 = true
  · subst c4
    have H1 : ((wide_Mul.f (wrap64 (a0)) (wrap64 (a0))).bind fun bt543 => (if (IntKind.u64.wrap ((IntKind.u64.wrap (2 * (IntKind.u64.wrap (a0)))) + 1)) = 0 then (none) else ((wide_Of.f (wrap64 (Int.tmod (IntKind.u64.wrap (a1)) (IntKind.u64.wrap ((IntKind.u64.wrap (2 * (IntKind.u64.wrap (a0)))) + 1))))).bind fun bt546 => ((wide_Add.f bt543.1 bt543.2 bt546.1 bt546.2).bind fun bt548 => ((wide_Root.f k bt543.1 bt543.2).bind fun bt551 => ((wide_Root.f k bt548.1 bt548.2).bind fun bt553 => (if bt551.2 = 0 then (if bt553.2 = 0 then (if bt551.1 = (IntKind.u64.wrap (a0)) then (some (bt553.1 == (IntKind.u64.wrap (a0)))) else (none)) else (none)) else (none)))))))) = some r := by rw [if_pos rfl] at H; exact H
    clear H
    have H := H1
    clear H1
    replace H := Option.bind_eq_some_iff.mp H
    obtain ⟨⟨t543, t544⟩, A50, H⟩ := H
    replace H : (if (IntKind.u64.wrap ((IntKind.u64.wrap (2 * (IntKind.u64.wrap (a0)))) + 1)) = 0 then (none) else ((wide_Of.f (wrap64 (Int.tmod (IntKind.u64.wrap (a1)) (IntKind.u64.wrap ((IntKind.u64.wrap (2 * (IntKind.u64.wrap (a0)))) + 1))))).bind fun bt546 => ((wide_Add.f t543 t544 bt546.1 bt546.2).bind fun bt548 => ((wide_Root.f k t543 t544).bind fun bt551 => ((wide_Root.f k bt548.1 bt548.2).bind fun bt553 => (if bt551.2 = 0 then (if bt553.2 = 0 then (if bt551.1 = (IntKind.u64.wrap (a0)) then (some (bt553.1 == (IntKind.u64.wrap (a0)))) else (none)) else (none)) else (none))))))) = some r := H
    have A5 := Aside0.mk A50
    clear A50
    by_cases c6 : (IntKind.u64.wrap ((IntKind.u64.wrap (2 * (IntKind.u64.wrap (a0)))) + 1)) = 0
    · rw [if_pos c6] at H
      exact absurd H (by simp)
    · rw [if_neg c6] at H
      have c6b0 : ((IntKind.u64.wrap ((IntKind.u64.wrap (2 * (IntKind.u64.wrap (a0)))) + 1)) == 0) = false := beq_eq_false_iff_ne.mpr c6
      have c6b1 : ((IntKind.u64.wrap ((IntKind.u64.wrap (2 * (IntKind.u64.wrap (a0)))) + 1)) != 0) = true := bne_iff_ne.mpr c6
      replace H := Option.bind_eq_some_iff.mp H
      obtain ⟨⟨t546, t547⟩, A70, H⟩ := H
      replace H : ((wide_Add.f t543 t544 t546 t547).bind fun bt548 => ((wide_Root.f k t543 t544).bind fun bt551 => ((wide_Root.f k bt548.1 bt548.2).bind fun bt553 => (if bt551.2 = 0 then (if bt553.2 = 0 then (if bt551.1 = (IntKind.u64.wrap (a0)) then (some (bt553.1 == (IntKind.u64.wrap (a0)))) else (none)) else (none)) else (none))))) = some r := H
      have A7 := Aside0.mk A70
      clear A70
      replace H := Option.bind_eq_some_iff.mp H
      obtain ⟨⟨t548, t549⟩, A80, H⟩ := H
      replace H : ((wide_Root.f k t543 t544).bind fun bt551 => ((wide_Root.f k t548 t549).bind fun bt553 => (if bt551.2 = 0 then (if bt553.2 = 0 then (if bt551.1 = (IntKind.u64.wrap (a0)) then (some (bt553.1 == (IntKind.u64.wrap (a0)))) else (none)) else (none)) else (none)))) = some r := H
      have A8 := Aside0.mk A80
      clear A80
      replace H := Option.bind_eq_some_iff.mp H
      obtain ⟨⟨t551, t552⟩, A90, H⟩ := H
      replace H : ((wide_Root.f k t548 t549).bind fun bt553 => (if t552 = 0 then (if bt553.2 = 0 then (if t551 = (IntKind.u64.wrap (a0)) then (some (bt553.1 == (IntKind.u64.wrap (a0)))) else (none)) else (none)) else (none))) = some r := H
      have A9 := Aside0.mk A90
      clear A90
      replace H := Option.bind_eq_some_iff.mp H
      obtain ⟨⟨t553, t554⟩, A100, H⟩ := H
      replace H : (if t552 = 0 then (if t554 = 0 then (if t551 = (IntKind.u64.wrap (a0)) then (some (t553 == (IntKind.u64.wrap (a0)))) else (none)) else (none)) else (none)) = some r := H
      have A10 := Aside0.mk A100
      clear A100
      by_cases c11 : t552 = 0
      · rw [if_pos c11] at H
        have c11b0 : (t552 == 0) = true := beq_iff_eq.mpr c11
        have c11b1 : (t552 != 0) = false := bne_eq_false_iff_eq.mpr c11
        clear c11
        by_cases c12 : t554 = 0
        · rw [if_pos c12] at H
          have c12b0 : (t554 == 0) = true := beq_iff_eq.mpr c12
          have c12b1 : (t554 != 0) = false := bne_eq_false_iff_eq.mpr c12
          clear c12
          by_cases c13 : t551 = (IntKind.u64.wrap (a0))
          · rw [if_pos c13] at H
            have c13b0 : (t551 == (IntKind.u64.wrap (a0))) = true := beq_iff_eq.mpr c13
            have c13b1 : (t551 != (IntKind.u64.wrap (a0))) = false := bne_eq_false_iff_eq.mpr c13
            clear c13
            obtain rfl := Option.some.inj H
            go_enter Try.func8, Try.ntmps8
            try go_wp2_with (first | ((with_reducible refine gate_callee (f := 15) rfl ?_); refine goesL_ (some 11) rfl rfl Try.func15 (by kernel_rfl) rfl #[] rfl (by (try simp only [List.map_toArray, List.map_cons, List.map_nil]); first | done | rfl | (simp only [List.length_drop, List.length_take]; rfl)) ?_; (with_reducible refine (calamuslaw01_alive.calls k  true _ A3.out).mono ?_); rintro e w14 ⟨rfl, hb⟩; refine ⟨_, rfl, ?_⟩; have n0_ := Aside0.mk (below_step (by repeat (first | (with_reducible first | exact HB.out | apply below_alloc | apply pw_below_drewN | apply below_drew1) | exact HB.out)) hb); clear HB; have HB := n0_; clear n0_; (try clear hb); (try clear hb2); (try clear hk); (try clear hi)) | ((with_reducible refine gate_callee (f := 21) rfl ?_); refine goesL_ (some 17) rfl rfl Try.func21 (by kernel_rfl) rfl #[.int .i64 (wrap64 (a0)), .int .i64 (wrap64 (a0))] rfl (by (try simp only [List.map_toArray, List.map_cons, List.map_nil]); first | done | rfl | (simp only [List.length_drop, List.length_take]; rfl)) ?_; (with_reducible refine (wide_Mul.calls (wrap64 (a0)) (wrap64 (a0)) t543 t544 _ A5.out).mono ?_); rintro e w15 ⟨rfl, hb⟩; refine ⟨_, rfl, ?_⟩; have n0_ := Aside0.mk (below_step (by repeat (first | (with_reducible first | exact HB.out | apply below_alloc | apply pw_below_drewN | apply below_drew1) | exact HB.out)) hb); clear HB; have HB := n0_; clear n0_; (try clear hb); (try clear hb2); (try clear hk); (try clear hi)) | ((with_reducible refine gate_dst (N := 5) rfl ?_); refine box_event ?hg (N := 5) ?hd (cs := #[.int .i64 0, .int .u64 0]) (t := 28) ?hr ?_; (case hd => rfl); (case hg => rfl); (case hr => first | (go_simp; done) | (go_simp; rfl)); intro gb545 hg w16 hbox hb; have n0_ := Aside0.mk (below_step (by repeat (first | (with_reducible first | exact HB.out | apply below_alloc | apply pw_below_drewN | apply below_drew1) | exact HB.out)) hb); have n1_ := Aside0.mk (hbox); have n2_ := Aside0.mk ((by rw [hg]; exact (below_size (by repeat (first | (with_reducible first | exact HB.out | apply below_alloc | apply pw_below_drewN | apply below_drew1) | exact HB.out))) : w.heap.size ≤ gb545)); have n3_ := Aside0.mk ((by rw [hg]; exact (below_size (by repeat (first | (with_reducible first | exact HB.out | apply below_alloc | apply pw_below_drewN | apply below_drew1) | exact HB.out))) : w.heap.size ≤ gb545)); clear HB; have HB := n0_; have BK545 := n1_; have GW545 := n2_; have GE545 := n3_; clear n0_ n1_ n2_ n3_; clear hb hbox hg; have hcz17_0 : w16.cell? ⟨gb545, 0, none⟩ = some (.int .i64 0) := (blk_cell BK545.out 0).trans rfl; have hcz17_1 : w16.cell? ⟨gb545, 1, none⟩ = some (.int .u64 0) := (blk_cell BK545.out 1).trans rfl; have hfz17_0 := blk_frozen BK545.out 0; have hfz17_1 := blk_frozen BK545.out 1))
            have n0_ : Aside0 (((w16.setCell ⟨gb545, 0, none⟩ (.int .i64 t543)).setCell ⟨gb545, 1, none⟩ (.int .u64 t544)).heap[gb545]? = some (.cells #[.int .i64 t543, .int .u64 t544] 28 (0, 0))) := ⟨by (with_reducible repeat (first | refine blk_drewN ?_ _ | refine blk_drew ?_ | refine blk_alloc ?_ _)); refine blk_put (cs := #[.int .i64 t543, .int .u64 0]) ?_ 1 _ rfl; (with_reducible repeat (first | refine blk_drewN ?_ _ | refine blk_drew ?_ | refine blk_alloc ?_ _)); refine blk_put (cs := #[.int .i64 0, .int .u64 0]) ?_ 0 _ rfl; (with_reducible repeat (first | refine blk_drewN ?_ _ | refine blk_drew ?_ | refine blk_alloc ?_ _)); exact BK545.out⟩
            have n1_ : Aside0 (Below w.heap.size w ((w16.setCell ⟨gb545, 0, none⟩ (.int .i64 t543)).setCell ⟨gb545, 1, none⟩ (.int .u64 t544))) := ⟨by repeat (first | (with_reducible first | exact HB.out | apply below_alloc | apply pw_below_drewN | apply below_drew1 | refine below_set ?_ GE545.out) | exact HB.out)⟩
            (try clear BK545)
            (try clear HB)
            generalize ((w16.setCell ⟨gb545, 0, none⟩ (.int .i64 t543)).setCell ⟨gb545, 1, none⟩ (.int .u64 t544)) = w18 at n0_ n1_ ⊢
            have BK545 := n0_
            have HB := n1_
            clear n0_ n1_
            have n0_ := Aside0.mk (blk_drew BK545.out)
            have n1_ := Aside0.mk (below_drew1 HB.out)
            clear BK545
            clear HB
            have BK545 := n0_
            have HB := n1_
            clear n0_ n1_
            refine start_ (n := 13) (S := fun w' => w'.cell? ⟨gb545, 0, none⟩ = some (.int .i64 t543) ∧ w'.cell? ⟨gb545, 1, none⟩ = some (.int .u64 t544)) (ds := []) #[false, false, false, false, false, false, false, false, false, false, false, false, false] (by kernel_rfl) rfl rfl ⟨(blk_cell BK545.out 0).trans rfl, (blk_cell BK545.out 1).trans rfl⟩ (fun hHeld => ?_); refine with_tabW calamuslaw01_WideSquares.tab4 calamuslaw01_WideSquares.bits4 (fun HT_ HW_ => ?_)
            generalize w18.drew = w19 at BK545 HB hHeld ⊢
            refine pure_ (i := 1) (N := some 19) (v := ?_) (a' := ?_) #[false, true, false, false, false, false, false, false, false, false, false, false, false] rfl rfl (any_of HT_.out (by kernel_rfl)) (fun _ _ _ h => h) (Or.inl ⟨by rfl, ?_⟩) ?_ ?_
            rotate_left
            · intro w'
              go_simp
              with_reducible rfl
            rotate_left
            · simp only [Act.put, List.setIfInBounds_toArray, List.set_cons_zero, List.set_cons_succ, i64_w, i32_w]
              rfl
            refine pure_ (i := 2) (N := some 20) (v := ?_) (a' := ?_) #[false, true, true, false, false, false, false, false, false, false, false, false, false] rfl rfl (any_of HT_.out (by kernel_rfl)) (fun _ _ _ h => h) (Or.inl ⟨by rfl, ?_⟩) ?_ ?_
            rotate_left
            · intro w'
              go_simp
              with_reducible rfl
            rotate_left
            · simp only [Act.put, List.setIfInBounds_toArray, List.set_cons_zero, List.set_cons_succ, i64_w, i32_w]
              rfl
            refine pure_ (i := 3) (N := some 21) (v := ?_) (a' := ?_) #[false, true, true, true, false, false, false, false, false, false, false, false, false] rfl rfl (any_of HT_.out (by kernel_rfl)) (fun _ _ _ h => h) (Or.inl ⟨by rfl, ?_⟩) ?_ ?_
            rotate_left
            · intro w'
              go_simp
              with_reducible rfl
            rotate_left
            · simp only [Act.put, List.setIfInBounds_toArray, List.set_cons_zero, List.set_cons_succ, i64_w, i32_w]
              rfl
            refine pure_ (i := 4) (N := some 22) (v := ?_) (a' := ?_) #[false, true, true, true, true, false, false, false, false, false, false, false, false] rfl rfl (any_of HT_.out (by kernel_rfl)) (fun _ _ _ h => h) (Or.inl ⟨by rfl, ?_⟩) ?_ ?_
            rotate_left
            · intro w'
              go_simp
              with_reducible rfl
            rotate_left
            · simp only [Act.put, List.setIfInBounds_toArray, List.set_cons_zero, List.set_cons_succ, i64_w, i32_w]
              rfl
            refine pure_ (i := 5) (N := some 23) (v := ?_) (a' := ?_) #[false, true, true, true, true, true, false, false, false, false, false, false, false] rfl rfl (any_of HT_.out (by kernel_rfl)) (fun _ _ _ h => h) (Or.inl ⟨by rfl, ?_⟩) ?_ ?_
            rotate_left
            · intro w'
              go_simp
              with_reducible rfl
            rotate_left
            · simp only [Act.put, List.setIfInBounds_toArray, List.set_cons_zero, List.set_cons_succ, i64_w, i32_w]
              rfl
            refine pure_ (i := 6) (N := some 24) (v := ?_) (a' := ?_) #[false, true, true, true, true, true, true, false, false, false, false, false, false] rfl rfl (any_of HT_.out (by kernel_rfl)) (fun _ _ _ h => h) (Or.inl ⟨by rfl, ?_⟩) ?_ ?_
            rotate_left
            · intro w'
              go_simp
              with_reducible rfl
            rotate_left
            · simp only [Act.put, List.setIfInBounds_toArray, List.set_cons_zero, List.set_cons_succ, i64_w, i32_w]
              rfl
            refine pure_ (i := 7) (N := some 25) (v := ?_) (a' := ?_) #[false, true, true, true, true, true, true, true, false, false, false, false, false] rfl rfl (any_of HT_.out (by kernel_rfl)) (fun _ _ _ h => h) (Or.inl ⟨by rfl, ?_⟩) ?_ ?_
            rotate_left
            · intro w'
              go_simp
              with_reducible rfl
            rotate_left
            · simp only [Act.put, List.setIfInBounds_toArray, List.set_cons_zero, List.set_cons_succ, i64_w, i32_w]
              rfl
            refine pure_ (i := 8) (N := some 26) (v := ?_) (a' := ?_) #[false, true, true, true, true, true, true, true, true, false, false, false, false] rfl rfl (any_of HT_.out (by kernel_rfl)) (fun _ _ _ h => h) (Or.inl ⟨by rfl, ?_⟩) ?_ ?_
            rotate_left
            · intro w'
              go_simp
              with_reducible rfl
            rotate_left
            · simp only [Act.put, List.setIfInBounds_toArray, List.set_cons_zero, List.set_cons_succ, i64_w, i32_w]
              rfl
            refine take_ (i := 0) (N := some 18) (v := ?_) (a' := ?_) #[true, true, true, true, true, true, true, true, true, false, false, false, false] rfl rfl (take_ofW HT_.out HW_.out (by kernel_rfl)) (fun _ _ _ h => h) (Or.inl ⟨by rfl, ?_⟩) hHeld ?_ ?_
            rotate_left
            · rintro w' ⟨s0, s1⟩
              go_simp
              with_reducible rfl
            rotate_left
            · simp only [Act.put, List.setIfInBounds_toArray, List.set_cons_zero, List.set_cons_succ, i64_w, i32_w]
              rfl
            refine join_ (σ := Nat) 1 #[true, true, true, true, true, true, true, true, true, true, true, true, false] (fun s_ => [(27, .agg #[.int .i64 t546, .int .u64 t547]), (28, .agg #[.int .i64 t548, .int .u64 t549]), (6, .pointer (some ⟨s_, 0, none⟩))]) (fun s_ w' => (w'.cell? ⟨gb545, 0, none⟩ = some (.int .i64 t543) ∧ w'.cell? ⟨gb545, 1, none⟩ = some (.int .u64 t544)) ∧ (w'.heap[gb545]? = some (.cells #[.int .i64 t543, .int .u64 t544] 28 (0, 0))) ∧ (w'.heap[s_]? = some (.cells #[.int .i64 0, .int .u64 0] 28 (0, 0))) ∧ (w.heap.size ≤ s_) ∧ (w.heap.size ≤ s_) ∧ (gb545 ≠ s_) ∧ (s_ ≠ gb545) ∧ (Below w.heap.size w w')) ?_ ?_
            rotate_left
            · intro hCont
              refine two_ (i := 9) (j := 11) (Ni := some 27) (Nj := some 6) #[true, true, true, true, true, true, true, true, true, true, false, false, false] #[true, true, true, true, true, true, true, true, true, false, false, true, false] rfl rfl rfl rfl (two_of HT_.out (by kernel_rfl)) (by decide) (by decide) (fun K hK => ?_) (fun K hK => ?_)
              · skip
                refine goes_ Try.func19 (by kernel_rfl) rfl #[.int .i64 (wrap64 (Int.tmod (IntKind.u64.wrap (a1)) (IntKind.u64.wrap ((IntKind.u64.wrap (2 * (IntKind.u64.wrap (a0)))) + 1))))] (by rfl) rfl rfl (by (try simp only [List.map_toArray, List.map_cons, List.map_nil]); first | done | rfl | (simp only [List.length_drop, List.length_take]; rfl)) ?_
                with_reducible refine (wide_Of.calls (wrap64 (Int.tmod (IntKind.u64.wrap (a1)) (IntKind.u64.wrap ((IntKind.u64.wrap (2 * (IntKind.u64.wrap (a0)))) + 1)))) t546 t547 _ A7.out).mono ?_
                rintro e w20 ⟨rfl, hb⟩
                refine ⟨_, rfl, ?_⟩
                have n0_ := Aside0.mk (blk_below (g := gb545) (o := .cells #[.int .i64 t543, .int .u64 t544] 28 (0, 0)) (by (with_reducible repeat (first | refine blk_drewN ?_ _ | refine blk_drew ?_ | refine blk_alloc ?_ _)); exact BK545.out) hb)
                have n1_ := Aside0.mk (below_step (by repeat (first | (with_reducible first | exact HB.out | apply below_alloc | apply pw_below_drewN | apply below_drew1 | refine below_set ?_ GE545.out) | exact HB.out)) hb)
                clear BK545
                clear HB
                have BK545 := n0_
                have HB := n1_
                clear n0_ n1_
                (try clear hb)
                (try clear hb2)
                (try clear hk)
                (try clear hi)
                refine hK.out _ _ ⟨(blk_cell BK545.out 0).trans rfl, (blk_cell BK545.out 1).trans rfl⟩ (fun hHeld => ?_)
                clear hK K
                refine norm_ (a' := ?_) ?_ ?_
                rotate_left
                · show Act.put _ (some 27) _ = _
                  simp only [Act.put, List.setIfInBounds_toArray, List.set_cons_zero, List.set_cons_succ, i64_w, i32_w]
                  rfl
                refine two_ (i := 10) (j := 11) (Ni := some 28) (Nj := some 6) #[true, true, true, true, true, true, true, true, true, true, true, false, false] #[true, true, true, true, true, true, true, true, true, true, false, true, false] rfl rfl rfl rfl (two_of HT_.out (by kernel_rfl)) (by decide) (by decide) (fun K hK => ?_) (fun K hK => ?_)
                · skip
                  refine goes_ Try.func32 (by kernel_rfl) rfl #[.agg #[.int .i64 t543, .int .u64 t544], .agg #[.int .i64 t546, .int .u64 t547]] (by rfl) rfl rfl (by (try simp only [List.map_toArray, List.map_cons, List.map_nil]); first | done | rfl | (simp only [List.length_drop, List.length_take]; rfl)) ?_
                  with_reducible refine (wide_Add.calls t543 t544 t546 t547 t548 t549 _ A8.out).mono ?_
                  rintro e w21 ⟨rfl, hb⟩
                  refine ⟨_, rfl, ?_⟩
                  have n0_ := Aside0.mk (blk_below (g := gb545) (o := .cells #[.int .i64 t543, .int .u64 t544] 28 (0, 0)) (by (with_reducible repeat (first | refine blk_drewN ?_ _ | refine blk_drew ?_ | refine blk_alloc ?_ _)); exact BK545.out) hb)
                  have n1_ := Aside0.mk (below_step (by repeat (first | (with_reducible first | exact HB.out | apply below_alloc | apply pw_below_drewN | apply below_drew1 | refine below_set ?_ GE545.out) | exact HB.out)) hb)
                  clear BK545
                  clear HB
                  have BK545 := n0_
                  have HB := n1_
                  clear n0_ n1_
                  (try clear hb)
                  (try clear hb2)
                  (try clear hk)
                  (try clear hi)
                  refine hK.out _ _ ⟨(blk_cell BK545.out 0).trans rfl, (blk_cell BK545.out 1).trans rfl⟩ (fun hHeld => ?_)
                  clear hK K
                  refine norm_ (a' := ?_) ?_ ?_
                  rotate_left
                  · show Act.put _ (some 28) _ = _
                    simp only [Act.put, List.setIfInBounds_toArray, List.set_cons_zero, List.set_cons_succ, i64_w, i32_w]
                    rfl
                  refine one_ (i := 11) (N := some 6) #[true, true, true, true, true, true, true, true, true, true, true, true, false] rfl rfl (one_of HT_.out (by kernel_rfl)) (by decide) (fun K hK => ?_)
                  refine box_step ?hg (N := 6) ?hd (cs := #[.int .i64 0, .int .u64 0]) (t := 28) ?hr ?_; (case hd => rfl); (case hg => rfl); (case hr => first | (go_simp; done) | (go_simp; rfl))
                  intro gb550 hg w22 hbox hb
                  have n0_ := Aside0.mk (blk_below (g := gb545) (o := .cells #[.int .i64 t543, .int .u64 t544] 28 (0, 0)) (by (with_reducible repeat (first | refine blk_drewN ?_ _ | refine blk_drew ?_ | refine blk_alloc ?_ _)); exact BK545.out) hb)
                  have n1_ := Aside0.mk (below_step (by repeat (first | (with_reducible first | exact HB.out | apply below_alloc | apply pw_below_drewN | apply below_drew1 | refine below_set ?_ GE545.out) | exact HB.out)) hb)
                  have n2_ := Aside0.mk (hbox)
                  have n3_ := Aside0.mk ((by rw [hg]; exact (below_size (by repeat (first | (with_reducible first | exact HB.out | apply below_alloc | apply pw_below_drewN | apply below_drew1 | refine below_set ?_ GE545.out) | exact HB.out))) : w.heap.size ≤ gb550))
                  have n4_ := Aside0.mk ((by rw [hg]; exact (below_size (by repeat (first | (with_reducible first | exact HB.out | apply below_alloc | apply pw_below_drewN | apply below_drew1 | refine below_set ?_ GE545.out) | exact HB.out))) : w.heap.size ≤ gb550))
                  have n5_ := Aside0.mk ((by rw [hg]; exact Nat.ne_of_lt (blk_lt (g := gb545) (o := .cells #[.int .i64 t543, .int .u64 t544] 28 (0, 0)) (by (with_reducible repeat (first | refine blk_drewN ?_ _ | refine blk_drew ?_ | refine blk_alloc ?_ _)); exact BK545.out)) : gb545 ≠ gb550))
                  have n6_ := Aside0.mk ((by rw [hg]; exact Nat.ne_of_gt (blk_lt (g := gb545) (o := .cells #[.int .i64 t543, .int .u64 t544] 28 (0, 0)) (by (with_reducible repeat (first | refine blk_drewN ?_ _ | refine blk_drew ?_ | refine blk_alloc ?_ _)); exact BK545.out)) : gb550 ≠ gb545))
                  clear BK545
                  clear HB
                  have BK545 := n0_
                  have HB := n1_
                  have BK550 := n2_
                  have GW550 := n3_
                  have GE550 := n4_
                  have NB545_550 := n5_
                  have NB550_545 := n6_
                  clear n0_ n1_ n2_ n3_ n4_ n5_ n6_
                  clear hb hbox hg
                  refine hK.out _ _ ⟨(blk_cell BK545.out 0).trans rfl, (blk_cell BK545.out 1).trans rfl⟩ (fun hHeld => ?_)
                  clear hK K
                  refine norm_ (a' := ?_) ?_ ?_
                  rotate_left
                  · show Act.put _ (some 6) _ = _
                    simp only [Act.put, List.setIfInBounds_toArray, List.set_cons_zero, List.set_cons_succ, i64_w, i32_w]
                    rfl
                  exact norm_ (by simp only [putAll, Act.put, List.setIfInBounds_toArray, List.set_cons_zero, List.set_cons_succ]) (hCont (gb550) _ ⟨hHeld, (by (with_reducible repeat (first | refine blk_drewN ?_ _ | refine blk_drew ?_ | refine blk_alloc ?_ _)); exact BK545.out), (by (with_reducible repeat (first | refine blk_drewN ?_ _ | refine blk_drew ?_ | refine blk_alloc ?_ _)); exact BK550.out), GW550.out, GE550.out, NB545_550.out, NB550_545.out, (by repeat (first | (with_reducible first | exact HB.out | apply below_alloc | apply pw_below_drewN | apply below_drew1 | refine below_set ?_ GE545.out | refine below_set ?_ GE550.out) | exact HB.out))⟩)
                · skip
                  refine box_step ?hg (N := 6) ?hd (cs := #[.int .i64 0, .int .u64 0]) (t := 28) ?hr ?_; (case hd => rfl); (case hg => rfl); (case hr => first | (go_simp; done) | (go_simp; rfl))
                  intro gb550 hg w21 hbox hb
                  have n0_ := Aside0.mk (blk_below (g := gb545) (o := .cells #[.int .i64 t543, .int .u64 t544] 28 (0, 0)) (by (with_reducible repeat (first | refine blk_drewN ?_ _ | refine blk_drew ?_ | refine blk_alloc ?_ _)); exact BK545.out) hb)
                  have n1_ := Aside0.mk (below_step (by repeat (first | (with_reducible first | exact HB.out | apply below_alloc | apply pw_below_drewN | apply below_drew1 | refine below_set ?_ GE545.out) | exact HB.out)) hb)
                  have n2_ := Aside0.mk (hbox)
                  have n3_ := Aside0.mk ((by rw [hg]; exact (below_size (by repeat (first | (with_reducible first | exact HB.out | apply below_alloc | apply pw_below_drewN | apply below_drew1 | refine below_set ?_ GE545.out) | exact HB.out))) : w.heap.size ≤ gb550))
                  have n4_ := Aside0.mk ((by rw [hg]; exact (below_size (by repeat (first | (with_reducible first | exact HB.out | apply below_alloc | apply pw_below_drewN | apply below_drew1 | refine below_set ?_ GE545.out) | exact HB.out))) : w.heap.size ≤ gb550))
                  have n5_ := Aside0.mk ((by rw [hg]; exact Nat.ne_of_lt (blk_lt (g := gb545) (o := .cells #[.int .i64 t543, .int .u64 t544] 28 (0, 0)) (by (with_reducible repeat (first | refine blk_drewN ?_ _ | refine blk_drew ?_ | refine blk_alloc ?_ _)); exact BK545.out)) : gb545 ≠ gb550))
                  have n6_ := Aside0.mk ((by rw [hg]; exact Nat.ne_of_gt (blk_lt (g := gb545) (o := .cells #[.int .i64 t543, .int .u64 t544] 28 (0, 0)) (by (with_reducible repeat (first | refine blk_drewN ?_ _ | refine blk_drew ?_ | refine blk_alloc ?_ _)); exact BK545.out)) : gb550 ≠ gb545))
                  clear BK545
                  clear HB
                  have BK545 := n0_
                  have HB := n1_
                  have BK550 := n2_
                  have GW550 := n3_
                  have GE550 := n4_
                  have NB545_550 := n5_
                  have NB550_545 := n6_
                  clear n0_ n1_ n2_ n3_ n4_ n5_ n6_
                  clear hb hbox hg
                  refine hK.out _ _ ⟨(blk_cell BK545.out 0).trans rfl, (blk_cell BK545.out 1).trans rfl⟩ (fun hHeld => ?_)
                  clear hK K
                  refine norm_ (a' := ?_) ?_ ?_
                  rotate_left
                  · show Act.put _ (some 6) _ = _
                    simp only [Act.put, List.setIfInBounds_toArray, List.set_cons_zero, List.set_cons_succ, i64_w, i32_w]
                    rfl
                  refine one_ (i := 10) (N := some 28) #[true, true, true, true, true, true, true, true, true, true, true, true, false] rfl rfl (one_of HT_.out (by kernel_rfl)) (by decide) (fun K hK => ?_)
                  refine goes_ Try.func32 (by kernel_rfl) rfl #[.agg #[.int .i64 t543, .int .u64 t544], .agg #[.int .i64 t546, .int .u64 t547]] (by rfl) rfl rfl (by (try simp only [List.map_toArray, List.map_cons, List.map_nil]); first | done | rfl | (simp only [List.length_drop, List.length_take]; rfl)) ?_
                  with_reducible refine (wide_Add.calls t543 t544 t546 t547 t548 t549 _ A8.out).mono ?_
                  rintro e w22 ⟨rfl, hb⟩
                  refine ⟨_, rfl, ?_⟩
                  have n0_ := Aside0.mk (blk_below (g := gb545) (o := .cells #[.int .i64 t543, .int .u64 t544] 28 (0, 0)) (by (with_reducible repeat (first | refine blk_drewN ?_ _ | refine blk_drew ?_ | refine blk_alloc ?_ _)); exact BK545.out) hb)
                  have n1_ := Aside0.mk (blk_below (g := gb550) (o := .cells #[.int .i64 0, .int .u64 0] 28 (0, 0)) (by (with_reducible repeat (first | refine blk_drewN ?_ _ | refine blk_drew ?_ | refine blk_alloc ?_ _)); exact BK550.out) hb)
                  have n2_ := Aside0.mk (below_step (by repeat (first | (with_reducible first | exact HB.out | apply below_alloc | apply pw_below_drewN | apply below_drew1 | refine below_set ?_ GE545.out | refine below_set ?_ GE550.out) | exact HB.out)) hb)
                  clear BK545
                  clear BK550
                  clear HB
                  have BK545 := n0_
                  have BK550 := n1_
                  have HB := n2_
                  clear n0_ n1_ n2_
                  (try clear hb)
                  (try clear hb2)
                  (try clear hk)
                  (try clear hi)
                  refine hK.out _ _ ⟨(blk_cell BK545.out 0).trans rfl, (blk_cell BK545.out 1).trans rfl⟩ (fun hHeld => ?_)
                  clear hK K
                  refine norm_ (a' := ?_) ?_ ?_
                  rotate_left
                  · show Act.put _ (some 28) _ = _
                    simp only [Act.put, List.setIfInBounds_toArray, List.set_cons_zero, List.set_cons_succ, i64_w, i32_w]
                    rfl
                  exact norm_ (by simp only [putAll, Act.put, List.setIfInBounds_toArray, List.set_cons_zero, List.set_cons_succ]) (hCont (gb550) _ ⟨hHeld, (by (with_reducible repeat (first | refine blk_drewN ?_ _ | refine blk_drew ?_ | refine blk_alloc ?_ _)); exact BK545.out), (by (with_reducible repeat (first | refine blk_drewN ?_ _ | refine blk_drew ?_ | refine blk_alloc ?_ _)); exact BK550.out), GW550.out, GE550.out, NB545_550.out, NB550_545.out, (by repeat (first | (with_reducible first | exact HB.out | apply below_alloc | apply pw_below_drewN | apply below_drew1 | refine below_set ?_ GE545.out | refine below_set ?_ GE550.out) | exact HB.out))⟩)
              · skip
                refine box_step ?hg (N := 6) ?hd (cs := #[.int .i64 0, .int .u64 0]) (t := 28) ?hr ?_; (case hd => rfl); (case hg => rfl); (case hr => first | (go_simp; done) | (go_simp; rfl))
                intro gb550 hg w20 hbox hb
                have n0_ := Aside0.mk (blk_below (g := gb545) (o := .cells #[.int .i64 t543, .int .u64 t544] 28 (0, 0)) (by (with_reducible repeat (first | refine blk_drewN ?_ _ | refine blk_drew ?_ | refine blk_alloc ?_ _)); exact BK545.out) hb)
                have n1_ := Aside0.mk (below_step (by repeat (first | (with_reducible first | exact HB.out | apply below_alloc | apply pw_below_drewN | apply below_drew1 | refine below_set ?_ GE545.out) | exact HB.out)) hb)
                have n2_ := Aside0.mk (hbox)
                have n3_ := Aside0.mk ((by rw [hg]; exact (below_size (by repeat (first | (with_reducible first | exact HB.out | apply below_alloc | apply pw_below_drewN | apply below_drew1 | refine below_set ?_ GE545.out) | exact HB.out))) : w.heap.size ≤ gb550))
                have n4_ := Aside0.mk ((by rw [hg]; exact (below_size (by repeat (first | (with_reducible first | exact HB.out | apply below_alloc | apply pw_below_drewN | apply below_drew1 | refine below_set ?_ GE545.out) | exact HB.out))) : w.heap.size ≤ gb550))
                have n5_ := Aside0.mk ((by rw [hg]; exact Nat.ne_of_lt (blk_lt (g := gb545) (o := .cells #[.int .i64 t543, .int .u64 t544] 28 (0, 0)) (by (with_reducible repeat (first | refine blk_drewN ?_ _ | refine blk_drew ?_ | refine blk_alloc ?_ _)); exact BK545.out)) : gb545 ≠ gb550))
                have n6_ := Aside0.mk ((by rw [hg]; exact Nat.ne_of_gt (blk_lt (g := gb545) (o := .cells #[.int .i64 t543, .int .u64 t544] 28 (0, 0)) (by (with_reducible repeat (first | refine blk_drewN ?_ _ | refine blk_drew ?_ | refine blk_alloc ?_ _)); exact BK545.out)) : gb550 ≠ gb545))
                clear BK545
                clear HB
                have BK545 := n0_
                have HB := n1_
                have BK550 := n2_
                have GW550 := n3_
                have GE550 := n4_
                have NB545_550 := n5_
                have NB550_545 := n6_
                clear n0_ n1_ n2_ n3_ n4_ n5_ n6_
                clear hb hbox hg
                refine hK.out _ _ ⟨(blk_cell BK545.out 0).trans rfl, (blk_cell BK545.out 1).trans rfl⟩ (fun hHeld => ?_)
                clear hK K
                refine norm_ (a' := ?_) ?_ ?_
                rotate_left
                · show Act.put _ (some 6) _ = _
                  simp only [Act.put, List.setIfInBounds_toArray, List.set_cons_zero, List.set_cons_succ, i64_w, i32_w]
                  rfl
                refine one_ (i := 9) (N := some 27) #[true, true, true, true, true, true, true, true, true, true, false, true, false] rfl rfl (one_of HT_.out (by kernel_rfl)) (by decide) (fun K hK => ?_)
                refine goes_ Try.func19 (by kernel_rfl) rfl #[.int .i64 (wrap64 (Int.tmod (IntKind.u64.wrap (a1)) (IntKind.u64.wrap ((IntKind.u64.wrap (2 * (IntKind.u64.wrap (a0)))) + 1))))] (by rfl) rfl rfl (by (try simp only [List.map_toArray, List.map_cons, List.map_nil]); first | done | rfl | (simp only [List.length_drop, List.length_take]; rfl)) ?_
                with_reducible refine (wide_Of.calls (wrap64 (Int.tmod (IntKind.u64.wrap (a1)) (IntKind.u64.wrap ((IntKind.u64.wrap (2 * (IntKind.u64.wrap (a0)))) + 1)))) t546 t547 _ A7.out).mono ?_
                rintro e w21 ⟨rfl, hb⟩
                refine ⟨_, rfl, ?_⟩
                have n0_ := Aside0.mk (blk_below (g := gb545) (o := .cells #[.int .i64 t543, .int .u64 t544] 28 (0, 0)) (by (with_reducible repeat (first | refine blk_drewN ?_ _ | refine blk_drew ?_ | refine blk_alloc ?_ _)); exact BK545.out) hb)
                have n1_ := Aside0.mk (blk_below (g := gb550) (o := .cells #[.int .i64 0, .int .u64 0] 28 (0, 0)) (by (with_reducible repeat (first | refine blk_drewN ?_ _ | refine blk_drew ?_ | refine blk_alloc ?_ _)); exact BK550.out) hb)
                have n2_ := Aside0.mk (below_step (by repeat (first | (with_reducible first | exact HB.out | apply below_alloc | apply pw_below_drewN | apply below_drew1 | refine below_set ?_ GE545.out | refine below_set ?_ GE550.out) | exact HB.out)) hb)
                clear BK545
                clear BK550
                clear HB
                have BK545 := n0_
                have BK550 := n1_
                have HB := n2_
                clear n0_ n1_ n2_
                (try clear hb)
                (try clear hb2)
                (try clear hk)
                (try clear hi)
                refine hK.out _ _ ⟨(blk_cell BK545.out 0).trans rfl, (blk_cell BK545.out 1).trans rfl⟩ (fun hHeld => ?_)
                clear hK K
                refine norm_ (a' := ?_) ?_ ?_
                rotate_left
                · show Act.put _ (some 27) _ = _
                  simp only [Act.put, List.setIfInBounds_toArray, List.set_cons_zero, List.set_cons_succ, i64_w, i32_w]
                  rfl
                refine one_ (i := 10) (N := some 28) #[true, true, true, true, true, true, true, true, true, true, true, true, false] rfl rfl (one_of HT_.out (by kernel_rfl)) (by decide) (fun K hK => ?_)
                refine goes_ Try.func32 (by kernel_rfl) rfl #[.agg #[.int .i64 t543, .int .u64 t544], .agg #[.int .i64 t546, .int .u64 t547]] (by rfl) rfl rfl (by (try simp only [List.map_toArray, List.map_cons, List.map_nil]); first | done | rfl | (simp only [List.length_drop, List.length_take]; rfl)) ?_
                with_reducible refine (wide_Add.calls t543 t544 t546 t547 t548 t549 _ A8.out).mono ?_
                rintro e w22 ⟨rfl, hb⟩
                refine ⟨_, rfl, ?_⟩
                have n0_ := Aside0.mk (blk_below (g := gb545) (o := .cells #[.int .i64 t543, .int .u64 t544] 28 (0, 0)) (by (with_reducible repeat (first | refine blk_drewN ?_ _ | refine blk_drew ?_ | refine blk_alloc ?_ _)); exact BK545.out) hb)
                have n1_ := Aside0.mk (blk_below (g := gb550) (o := .cells #[.int .i64 0, .int .u64 0] 28 (0, 0)) (by (with_reducible repeat (first | refine blk_drewN ?_ _ | refine blk_drew ?_ | refine blk_alloc ?_ _)); exact BK550.out) hb)
                have n2_ := Aside0.mk (below_step (by repeat (first | (with_reducible first | exact HB.out | apply below_alloc | apply pw_below_drewN | apply below_drew1 | refine below_set ?_ GE545.out | refine below_set ?_ GE550.out) | exact HB.out)) hb)
                clear BK545
                clear BK550
                clear HB
                have BK545 := n0_
                have BK550 := n1_
                have HB := n2_
                clear n0_ n1_ n2_
                (try clear hb)
                (try clear hb2)
                (try clear hk)
                (try clear hi)
                refine hK.out _ _ ⟨(blk_cell BK545.out 0).trans rfl, (blk_cell BK545.out 1).trans rfl⟩ (fun hHeld => ?_)
                clear hK K
                refine norm_ (a' := ?_) ?_ ?_
                rotate_left
                · show Act.put _ (some 28) _ = _
                  simp only [Act.put, List.setIfInBounds_toArray, List.set_cons_zero, List.set_cons_succ, i64_w, i32_w]
                  rfl
                exact norm_ (by simp only [putAll, Act.put, List.setIfInBounds_toArray, List.set_cons_zero, List.set_cons_succ]) (hCont (gb550) _ ⟨hHeld, (by (with_reducible repeat (first | refine blk_drewN ?_ _ | refine blk_drew ?_ | refine blk_alloc ?_ _)); exact BK545.out), (by (with_reducible repeat (first | refine blk_drewN ?_ _ | refine blk_drew ?_ | refine blk_alloc ?_ _)); exact BK550.out), GW550.out, GE550.out, NB545_550.out, NB550_545.out, (by repeat (first | (with_reducible first | exact HB.out | apply below_alloc | apply pw_below_drewN | apply below_drew1 | refine below_set ?_ GE545.out | refine below_set ?_ GE550.out) | exact HB.out))⟩)
            rintro gb550 w23 ⟨hS_, h0_, h1_, h2_, h3_, h4_, h5_, h6_⟩
            have n0_ : Aside0 (w23.heap[gb545]? = some (.cells #[.int .i64 t543, .int .u64 t544] 28 (0, 0))) := ⟨h0_⟩
            have n1_ : Aside0 (w23.heap[gb550]? = some (.cells #[.int .i64 0, .int .u64 0] 28 (0, 0))) := ⟨h1_⟩
            have n2_ : Aside0 (w.heap.size ≤ gb550) := ⟨h2_⟩
            have n3_ : Aside0 (w.heap.size ≤ gb550) := ⟨h3_⟩
            have n4_ : Aside0 (gb545 ≠ gb550) := ⟨h4_⟩
            have n5_ : Aside0 (gb550 ≠ gb545) := ⟨h5_⟩
            have n6_ : Aside0 (Below w.heap.size w w23) := ⟨h6_⟩
            clear BK545
            clear HB
            clear h0_ h1_ h2_ h3_ h4_ h5_ h6_
            have BK545 := n0_
            have BK550 := n1_
            have GW550 := n2_
            have GE550 := n3_
            have NB545_550 := n4_
            have NB550_545 := n5_
            have HB := n6_
            clear n0_ n1_ n2_ n3_ n4_ n5_ n6_
            have hHeld : w23.cell? ⟨gb545, 0, none⟩ = some (.int .i64 t543) ∧ w23.cell? ⟨gb545, 1, none⟩ = some (.int .u64 t544) := hS_
            refine norm_ (a' := ?_) ?_ ?_
            rotate_left
            · simp only [putAll, Act.put, List.setIfInBounds_toArray, List.set_cons_zero, List.set_cons_succ]
              rfl
            refine one_ (i := 12) (N := none) #[true, true, true, true, true, true, true, true, true, true, true, true, true] rfl rfl (one_of HT_.out (by kernel_rfl)) (by decide) (fun K hK => ?_)
            have hs24 : w23.cell? ⟨gb550, 0, none⟩ = some (.int .i64 0) := (blk_cell BK550.out 0).trans rfl
            have hfs24 := blk_frozen BK550.out 0
            have hns24_0 := NB545_550.out
            have hms24_0 := NB550_545.out
            have hs25 : w23.cell? ⟨gb550, 1, none⟩ = some (.int .u64 0) := (blk_cell BK550.out 1).trans rfl
            have hfs25 := blk_frozen BK550.out 1
            have hns25_0 := NB545_550.out
            have hms25_0 := NB550_545.out
            refine skip_ (w1 := ?_) ?_ ?_ ?_ ?_
            rotate_left
            · rfl
            · rfl
            · go_simp
              rfl
            clear hs24 hfs24 hns24_0 hms24_0 hs25 hfs25 hns25_0 hms25_0
            refine hK.out _ _ ⟨((cell_far (p := ⟨gb550, _, none⟩) NB545_550.out _).trans (((cell_far (p := ⟨gb550, _, none⟩) NB545_550.out _).trans (hHeld.1)))), ((cell_far (p := ⟨gb550, _, none⟩) NB545_550.out _).trans (((cell_far (p := ⟨gb550, _, none⟩) NB545_550.out _).trans (hHeld.2))))⟩ (fun hHeld => ?_)
            clear hK K
            refine done_ (done_of HT_.out (by kernel_rfl)) ?_
            have hnb26 := NB545_550.out
            have hnc26 := NB550_545.out
            have hcz27_0 : w23.cell? ⟨gb545, 0, none⟩ = some (.int .i64 t543) := (blk_cell BK545.out 0).trans rfl
            have hcz27_1 : w23.cell? ⟨gb545, 1, none⟩ = some (.int .u64 t544) := (blk_cell BK545.out 1).trans rfl
            have hfz27_0 := blk_frozen BK545.out 0
            have hfz27_1 := blk_frozen BK545.out 1
            try go_wp2_with (first | ((with_reducible refine gate_callee (f := 26) rfl ?_); refine goesL_ (some 31) rfl rfl Try.func26 (by kernel_rfl) rfl #[.agg #[.int .i64 t543, .int .u64 t544]] rfl (by (try simp only [List.map_toArray, List.map_cons, List.map_nil]); first | done | rfl | (simp only [List.length_drop, List.length_take]; rfl)) ?_; (with_reducible refine (wide_Root.calls k t543 t544 t551 t552 _ A9.out).mono ?_); rintro e w28 ⟨rfl, hb⟩; refine ⟨_, rfl, ?_⟩; have n0_ := Aside0.mk (blk_below (g := gb545) (o := .cells #[.int .i64 t543, .int .u64 t544] 28 (0, 0)) (by (with_reducible repeat (first | refine blk_drewN ?_ _ | refine blk_drew ?_ | refine blk_alloc ?_ _)); refine blk_far ?_ NB545_550.out _; (with_reducible repeat (first | refine blk_drewN ?_ _ | refine blk_drew ?_ | refine blk_alloc ?_ _)); refine blk_far ?_ NB545_550.out _; (with_reducible repeat (first | refine blk_drewN ?_ _ | refine blk_drew ?_ | refine blk_alloc ?_ _)); exact BK545.out) hb); have n1_ := Aside0.mk (blk_below (g := gb550) (o := .cells #[.int .i64 t548, .int .u64 t549] 28 (0, 0)) (by (with_reducible repeat (first | refine blk_drewN ?_ _ | refine blk_drew ?_ | refine blk_alloc ?_ _)); refine blk_put (cs := #[.int .i64 t548, .int .u64 0]) ?_ 1 _ rfl; (with_reducible repeat (first | refine blk_drewN ?_ _ | refine blk_drew ?_ | refine blk_alloc ?_ _)); refine blk_put (cs := #[.int .i64 0, .int .u64 0]) ?_ 0 _ rfl; (with_reducible repeat (first | refine blk_drewN ?_ _ | refine blk_drew ?_ | refine blk_alloc ?_ _)); exact BK550.out) hb); have n2_ := Aside0.mk (below_step (by repeat (first | (with_reducible first | exact HB.out | apply below_alloc | apply pw_below_drewN | apply below_drew1 | refine below_set ?_ GE545.out | refine below_set ?_ GE550.out) | exact HB.out)) hb); clear BK545; clear BK550; clear HB; have BK545 := n0_; have BK550 := n1_; have HB := n2_; clear n0_ n1_ n2_; (try clear hb); (try clear hb2); (try clear hk); (try clear hi); have hcz29_0 : w28.cell? ⟨gb550, 0, none⟩ = some (.int .i64 t548) := (blk_cell BK550.out 0).trans rfl; have hcz29_1 : w28.cell? ⟨gb550, 1, none⟩ = some (.int .u64 t549) := (blk_cell BK550.out 1).trans rfl; have hfz29_0 := blk_frozen BK550.out 0; have hfz29_1 := blk_frozen BK550.out 1) | ((with_reducible refine gate_callee (f := 26) rfl ?_); refine goesL_ (some 36) rfl rfl Try.func26 (by kernel_rfl) rfl #[.agg #[.int .i64 t548, .int .u64 t549]] rfl (by (try simp only [List.map_toArray, List.map_cons, List.map_nil]); first | done | rfl | (simp only [List.length_drop, List.length_take]; rfl)) ?_; (with_reducible refine (wide_Root.calls k t548 t549 t553 t554 _ A10.out).mono ?_); rintro e w30 ⟨rfl, hb⟩; refine ⟨_, rfl, ?_⟩; have n0_ := Aside0.mk (blk_below (g := gb545) (o := .cells #[.int .i64 t543, .int .u64 t544] 28 (0, 0)) (by (with_reducible repeat (first | refine blk_drewN ?_ _ | refine blk_drew ?_ | refine blk_alloc ?_ _)); exact BK545.out) hb); have n1_ := Aside0.mk (blk_below (g := gb550) (o := .cells #[.int .i64 t548, .int .u64 t549] 28 (0, 0)) (by (with_reducible repeat (first | refine blk_drewN ?_ _ | refine blk_drew ?_ | refine blk_alloc ?_ _)); exact BK550.out) hb); have n2_ := Aside0.mk (below_step (by repeat (first | (with_reducible first | exact HB.out | apply below_alloc | apply pw_below_drewN | apply below_drew1 | refine below_set ?_ GE545.out | refine below_set ?_ GE550.out) | exact HB.out)) hb); clear BK545; clear BK550; clear HB; have BK545 := n0_; have BK550 := n1_; have HB := n2_; clear n0_ n1_ n2_; (try clear hb); (try clear hb2); (try clear hk); (try clear hi)))
            go_ret
            exact ⟨by first | rfl | (simp [errW_none, errW_some] <;> rfl) | (simp [*, errW_none, errW_some] <;> rfl), by repeat (first | (with_reducible first | exact HB.out | apply below_alloc | apply pw_below_drewN | apply below_drew1 | refine below_set ?_ GE545.out | refine below_set ?_ GE550.out) | exact HB.out)⟩
          · rw [if_neg c13] at H
            exact absurd H (by simp)
        · rw [if_neg c12] at H
          exact absurd H (by simp)
      · rw [if_neg c11] at H
        exact absurd H (by simp)
  · replace c4 := Bool.eq_false_iff.mpr c4
    subst c4
    have H1 : (none) = some r := by rw [if_neg (show ¬ (false = true) by decide)] at H; exact H
    clear H
    have H := H1
    clear H1
    exact absurd H (by simp)

end Go.Proofs.Ytiicdgimffpckaa.W
