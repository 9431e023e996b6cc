/- What Go functions answer, as Lean functions, and that they do: written by wip/xprint.py of this session (the kit's printer with turns, texts by hand among them). -/
import Derived.Test.YtgibokbkobcnaaaG0
import Derived.Test.YtgibokbkobcnaaaGd0
import Derived.Test.YtgibokbkobcnaaaGf16
import Derived.Test.YtgibokbkobcnaaaGf17
import Derived.Test.YtgibokbkobcnaaaGf14
namespace Go.Proofs.Ytgibokbkobcnaaa.G
open Go.RowKit Go.Proofs.YtgibokbkobcnaaaW.PrintWords Go.Proofs.YtgibokbkobcnaaaW.PrintLast Go.Proofs.YtgibokbkobcnaaaW.PrintMore
attribute [local go_sem] max2_int min2_int max_two min_two max_three min_three max_four min_four   -- for this text's walks alone
set_option linter.unusedVariables false
set_option linter.unusedSimpArgs false

/-! ### calamuslaw10_GaussLaws: function 5 -/
def calamuslaw10_GaussLaws.T3 : Bool × List (List Nat × List Nat) := (true, [([], []), ([0], [0]), ([1], [1]), ([], []), ([3], [3]), ([4], [4]), ([2, 5], [2, 5]), ([], []), ([7], [7]), ([8], [8]), ([], []), ([10], [10]), ([11], [11]), ([9, 12], [9, 12]), ([], []), ([], []), ([14, 6, 0, 1, 2, 3, 4, 5, 6, 14, 15], [6, 14]), ([15, 13, 16, 0, 1, 2, 3, 4, 5, 6, 7, 8, 9, 10, 11, 12, 13, 14, 15, 16], [13, 15])])
def calamuslaw10_GaussLaws.B3 : List Nat := [0, 1, 3, 0, 8, 24, 63, 0, 128, 384, 0, 1024, 3072, 8064, 0, 0, 49279, 131071]
theorem calamuslaw10_GaussLaws.tab3 : rtab .any (opsOf Try.f5 3) = calamuslaw10_GaussLaws.T3 := by kernel_rfl
theorem calamuslaw10_GaussLaws.bits3 : waitsOk calamuslaw10_GaussLaws.T3.2 calamuslaw10_GaussLaws.B3 = true := by kernel_rfl
set_option maxHeartbeats 8000000 in
set_option maxRecDepth 100000 in
theorem calamuslaw10_GaussLaws.calls (k : Nat) (a0_0 : Int) (a0_1 : Int) (a1_0 : Int) (a1_1 : Int) (r : Bool) (w : World) (h : calamuslaw10_GaussLaws.f k a0_0 a0_1 a1_0 a1_1 = some r) :
    Calls Try.prog 5 #[.agg #[.int .i16 a0_0, .int .i16 a0_1], .agg #[.int .i16 a1_0, .int .i16 a1_1]] w fun e w' => e = .returned (.bool r) ∧ Below w.heap.size w w' := by
  have hix40_0 : ∀ (b o : Nat) (W : World), (Instr.indexAt 40 (.pointer (some ⟨b, o, none⟩)) (.int .i64 0)).run Try.prog W = .ok (.pointer (some ⟨b, o, none⟩)) W := fun _ _ _ => rfl
  have hix40_1 : ∀ (b o : Nat) (W : World), (Instr.indexAt 40 (.pointer (some ⟨b, o, none⟩)) (.int .i64 1)).run Try.prog W = .ok (.pointer (some ⟨b, o + 1, none⟩)) W := fun _ _ _ => rfl
  have hu40 := Try.underlying40
  have hu23 := Try.underlying23
  have HB := Aside0.mk (Below.refl w.heap.size w)
  have H : ((calamuslaw10_alive.f k).bind fun t178 => (if t178 = true then ((gauss_Cross.f (wrap64 (a0_0)) (wrap64 (a0_1)) (wrap64 (a1_0)) (wrap64 (a1_1))).bind fun bt181 => ((gauss_Cross.f (wrap64 (a1_0)) (wrap64 (a1_1)) (wrap64 (a0_0)) (wrap64 (a0_1))).bind fun bt183 => ((gauss_Cross.f (wrap64 (a0_0)) (wrap64 (a0_1)) (wrap64 (a0_0)) (wrap64 (a0_1))).bind fun bt185 => ((gauss_Dot.f (wrap64 (a0_0)) (wrap64 (a0_1)) (wrap64 (a1_0)) (wrap64 (a1_1))).bind fun bt187 => ((gauss_Dot.f (wrap64 (a0_0)) (wrap64 (a0_1)) (wrap64 (a0_0)) (wrap64 (a0_1))).bind fun bt189 => ((gauss_Dot.f (wrap64 (a1_0)) (wrap64 (a1_1)) (wrap64 (a1_0)) (wrap64 (a1_1))).bind fun bt191 => (if bt181.1 = (wrap64 (-bt183.1)) then (if bt185.1 = 0 then (some ((IntKind.u64.wrap ((IntKind.u64.wrap (wrap64 (bt181.1 * bt181.1))) + (IntKind.u64.wrap (wrap64 (bt187.1 * bt187.1))))) == (IntKind.u64.wrap ((IntKind.u64.wrap (bt189.1)) * (IntKind.u64.wrap (bt191.1)))))) else (none)) else (none)))))))) else (none))) = some r := h
  clear h
  replace H := Option.bind_eq_some_iff.mp H
  obtain ⟨t178, A30, H⟩ := H
  replace H : (if t178 = true then ((gauss_Cross.f (wrap64 (a0_0)) (wrap64 (a0_1)) (wrap64 (a1_0)) (wrap64 (a1_1))).bind fun bt181 => ((gauss_Cross.f (wrap64 (a1_0)) (wrap64 (a1_1)) (wrap64 (a0_0)) (wrap64 (a0_1))).bind fun bt183 => ((gauss_Cross.f (wrap64 (a0_0)) (wrap64 (a0_1)) (wrap64 (a0_0)) (wrap64 (a0_1))).bind fun bt185 => ((gauss_Dot.f (wrap64 (a0_0)) (wrap64 (a0_1)) (wrap64 (a1_0)) (wrap64 (a1_1))).bind fun bt187 => ((gauss_Dot.f (wrap64 (a0_0)) (wrap64 (a0_1)) (wrap64 (a0_0)) (wrap64 (a0_1))).bind fun bt189 => ((gauss_Dot.f (wrap64 (a1_0)) (wrap64 (a1_1)) (wrap64 (a1_0)) (wrap64 (a1_1))).bind fun bt191 => (if bt181.1 = (wrap64 (-bt183.1)) then (if bt185.1 = 0 then (some ((IntKind.u64.wrap ((IntKind.u64.wrap (wrap64 (bt181.1 * bt181.1))) + (IntKind.u64.wrap (wrap64 (bt187.1 * bt187.1))))) == (IntKind.u64.wrap ((IntKind.u64.wrap (bt189.1)) * (IntKind.u64.wrap (bt191.1)))))) else (none)) else (none)))))))) else (none)) = some r := H
  have A3 := Aside0.mk A30
  clear A30
  by_cases c4 : t178 = true
  · subst c4
    have H1 : ((gauss_Cross.f (wrap64 (a0_0)) (wrap64 (a0_1)) (wrap64 (a1_0)) (wrap64 (a1_1))).bind fun bt181 => ((gauss_Cross.f (wrap64 (a1_0)) (wrap64 (a1_1)) (wrap64 (a0_0)) (wrap64 (a0_1))).bind fun bt183 => ((gauss_Cross.f (wrap64 (a0_0)) (wrap64 (a0_1)) (wrap64 (a0_0)) (wrap64 (a0_1))).bind fun bt185 => ((gauss_Dot.f (wrap64 (a0_0)) (wrap64 (a0_1)) (wrap64 (a1_0)) (wrap64 (a1_1))).bind fun bt187 => ((gauss_Dot.f (wrap64 (a0_0)) (wrap64 (a0_1)) (wrap64 (a0_0)) (wrap64 (a0_1))).bind fun bt189 => ((gauss_Dot.f (wrap64 (a1_0)) (wrap64 (a1_1)) (wrap64 (a1_0)) (wrap64 (a1_1))).bind fun bt191 => (if bt181.1 = (wrap64 (-bt183.1)) then (if bt185.1 = 0 then (some ((IntKind.u64.wrap ((IntKind.u64.wrap (wrap64 (bt181.1 * bt181.1))) + (IntKind.u64.wrap (wrap64 (bt187.1 * bt187.1))))) == (IntKind.u64.wrap ((IntKind.u64.wrap (bt189.1)) * (IntKind.u64.wrap (bt191.1)))))) else (none)) else (none)))))))) = some r := by rw [if_pos rfl] at H; exact H
    clear H
    have H := H1
    clear H1
    replace H := Option.bind_eq_some_iff.mp H
    obtain ⟨⟨t181, t182⟩, A50, H⟩ := H
    replace H : ((gauss_Cross.f (wrap64 (a1_0)) (wrap64 (a1_1)) (wrap64 (a0_0)) (wrap64 (a0_1))).bind fun bt183 => ((gauss_Cross.f (wrap64 (a0_0)) (wrap64 (a0_1)) (wrap64 (a0_0)) (wrap64 (a0_1))).bind fun bt185 => ((gauss_Dot.f (wrap64 (a0_0)) (wrap64 (a0_1)) (wrap64 (a1_0)) (wrap64 (a1_1))).bind fun bt187 => ((gauss_Dot.f (wrap64 (a0_0)) (wrap64 (a0_1)) (wrap64 (a0_0)) (wrap64 (a0_1))).bind fun bt189 => ((gauss_Dot.f (wrap64 (a1_0)) (wrap64 (a1_1)) (wrap64 (a1_0)) (wrap64 (a1_1))).bind fun bt191 => (if t181 = (wrap64 (-bt183.1)) then (if bt185.1 = 0 then (some ((IntKind.u64.wrap ((IntKind.u64.wrap (wrap64 (t181 * t181))) + (IntKind.u64.wrap (wrap64 (bt187.1 * bt187.1))))) == (IntKind.u64.wrap ((IntKind.u64.wrap (bt189.1)) * (IntKind.u64.wrap (bt191.1)))))) else (none)) else (none))))))) = some r := H
    have A5 := Aside0.mk A50
    clear A50
    replace H := Option.bind_eq_some_iff.mp H
    obtain ⟨⟨t183, t184⟩, A60, H⟩ := H
    replace H : ((gauss_Cross.f (wrap64 (a0_0)) (wrap64 (a0_1)) (wrap64 (a0_0)) (wrap64 (a0_1))).bind fun bt185 => ((gauss_Dot.f (wrap64 (a0_0)) (wrap64 (a0_1)) (wrap64 (a1_0)) (wrap64 (a1_1))).bind fun bt187 => ((gauss_Dot.f (wrap64 (a0_0)) (wrap64 (a0_1)) (wrap64 (a0_0)) (wrap64 (a0_1))).bind fun bt189 => ((gauss_Dot.f (wrap64 (a1_0)) (wrap64 (a1_1)) (wrap64 (a1_0)) (wrap64 (a1_1))).bind fun bt191 => (if t181 = (wrap64 (-t183)) then (if bt185.1 = 0 then (some ((IntKind.u64.wrap ((IntKind.u64.wrap (wrap64 (t181 * t181))) + (IntKind.u64.wrap (wrap64 (bt187.1 * bt187.1))))) == (IntKind.u64.wrap ((IntKind.u64.wrap (bt189.1)) * (IntKind.u64.wrap (bt191.1)))))) else (none)) else (none)))))) = some r := H
    have A6 := Aside0.mk A60
    clear A60
    replace H := Option.bind_eq_some_iff.mp H
    obtain ⟨⟨t185, t186⟩, A70, H⟩ := H
    replace H : ((gauss_Dot.f (wrap64 (a0_0)) (wrap64 (a0_1)) (wrap64 (a1_0)) (wrap64 (a1_1))).bind fun bt187 => ((gauss_Dot.f (wrap64 (a0_0)) (wrap64 (a0_1)) (wrap64 (a0_0)) (wrap64 (a0_1))).bind fun bt189 => ((gauss_Dot.f (wrap64 (a1_0)) (wrap64 (a1_1)) (wrap64 (a1_0)) (wrap64 (a1_1))).bind fun bt191 => (if t181 = (wrap64 (-t183)) then (if t185 = 0 then (some ((IntKind.u64.wrap ((IntKind.u64.wrap (wrap64 (t181 * t181))) + (IntKind.u64.wrap (wrap64 (bt187.1 * bt187.1))))) == (IntKind.u64.wrap ((IntKind.u64.wrap (bt189.1)) * (IntKind.u64.wrap (bt191.1)))))) else (none)) else (none))))) = some r := H
    have A7 := Aside0.mk A70
    clear A70
    replace H := Option.bind_eq_some_iff.mp H
    obtain ⟨⟨t187, t188⟩, A80, H⟩ := H
    replace H : ((gauss_Dot.f (wrap64 (a0_0)) (wrap64 (a0_1)) (wrap64 (a0_0)) (wrap64 (a0_1))).bind fun bt189 => ((gauss_Dot.f (wrap64 (a1_0)) (wrap64 (a1_1)) (wrap64 (a1_0)) (wrap64 (a1_1))).bind fun bt191 => (if t181 = (wrap64 (-t183)) then (if t185 = 0 then (some ((IntKind.u64.wrap ((IntKind.u64.wrap (wrap64 (t181 * t181))) + (IntKind.u64.wrap (wrap64 (t187 * t187))))) == (IntKind.u64.wrap ((IntKind.u64.wrap (bt189.1)) * (IntKind.u64.wrap (bt191.1)))))) else (none)) else (none)))) = some r := H
    have A8 := Aside0.mk A80
    clear A80
    replace H := Option.bind_eq_some_iff.mp H
    obtain ⟨⟨t189, t190⟩, A90, H⟩ := H
    replace H : ((gauss_Dot.f (wrap64 (a1_0)) (wrap64 (a1_1)) (wrap64 (a1_0)) (wrap64 (a1_1))).bind fun bt191 => (if t181 = (wrap64 (-t183)) then (if t185 = 0 then (some ((IntKind.u64.wrap ((IntKind.u64.wrap (wrap64 (t181 * t181))) + (IntKind.u64.wrap (wrap64 (t187 * t187))))) == (IntKind.u64.wrap ((IntKind.u64.wrap (t189)) * (IntKind.u64.wrap (bt191.1)))))) else (none)) else (none))) = some r := H
    have A9 := Aside0.mk A90
    clear A90
    replace H := Option.bind_eq_some_iff.mp H
    obtain ⟨⟨t191, t192⟩, A100, H⟩ := H
    replace H : (if t181 = (wrap64 (-t183)) then (if t185 = 0 then (some ((IntKind.u64.wrap ((IntKind.u64.wrap (wrap64 (t181 * t181))) + (IntKind.u64.wrap (wrap64 (t187 * t187))))) == (IntKind.u64.wrap ((IntKind.u64.wrap (t189)) * (IntKind.u64.wrap (t191)))))) else (none)) else (none)) = some r := H
    have A10 := Aside0.mk A100
    clear A100
    by_cases c11 : t181 = (wrap64 (-t183))
    · rw [if_pos c11] at H
      have c11b0 : (t181 == (wrap64 (-t183))) = true := beq_iff_eq.mpr c11
      have c11b1 : (t181 != (wrap64 (-t183))) = false := bne_eq_false_iff_eq.mpr c11
      clear c11
      by_cases c12 : t185 = 0
      · rw [if_pos c12] at H
        have c12b0 : (t185 == 0) = true := beq_iff_eq.mpr c12
        have c12b1 : (t185 != 0) = false := bne_eq_false_iff_eq.mpr c12
        clear c12
        obtain rfl := Option.some.inj H
        go_enter Try.func5, Try.ntmps5
        try go_wp2_with (first | ((with_reducible refine gate_dst (N := 2) rfl ?_); refine box_event ?hg (N := 2) ?hd (cs := #[.int .i16 a0_0, .int .i16 a0_1]) (t := 40) ?hr ?_; (case hd => rfl); (case hg => rfl); (case hr => first | (go_simp; done) | (go_simp; rfl)); intro gb176 hg w13 hbox hb; have n0_ := Aside0.mk (below_step (by repeat (first | (with_reducible first | exact HB.out | apply below_alloc | apply pw_below_drewN | apply below_drew1) | exact HB.out)) hb); have n1_ := Aside0.mk (hbox); have n2_ := Aside0.mk ((by rw [hg]; exact (below_size (by repeat (first | (with_reducible first | exact HB.out | apply below_alloc | apply pw_below_drewN | apply below_drew1) | exact HB.out))) : w.heap.size ≤ gb176)); have n3_ := Aside0.mk ((by rw [hg]; exact (below_size (by repeat (first | (with_reducible first | exact HB.out | apply below_alloc | apply pw_below_drewN | apply below_drew1) | exact HB.out))) : w.heap.size ≤ gb176)); clear HB; have HB := n0_; have BK176 := n1_; have GW176 := n2_; have GE176 := n3_; clear n0_ n1_ n2_ n3_; clear hb hbox hg) | ((with_reducible refine gate_dst (N := 3) rfl ?_); refine box_event ?hg (N := 3) ?hd (cs := #[.int .i16 a1_0, .int .i16 a1_1]) (t := 40) ?hr ?_; (case hd => rfl); (case hg => rfl); (case hr => first | (go_simp; done) | (go_simp; rfl)); intro gb177 hg w14 hbox hb; have n0_ := Aside0.mk (blk_below (g := gb176) (o := .cells #[.int .i16 a0_0, .int .i16 a0_1] 40 (0, 0)) (by (with_reducible repeat (first | refine blk_drewN ?_ _ | refine blk_drew ?_ | refine blk_alloc ?_ _)); exact BK176.out) hb); have n1_ := Aside0.mk (below_step (by repeat (first | (with_reducible first | exact HB.out | apply below_alloc | apply pw_below_drewN | apply below_drew1 | refine below_set ?_ GE176.out) | exact HB.out)) hb); have n2_ := Aside0.mk (hbox); have n3_ := Aside0.mk ((by rw [hg]; exact (below_size (by repeat (first | (with_reducible first | exact HB.out | apply below_alloc | apply pw_below_drewN | apply below_drew1 | refine below_set ?_ GE176.out) | exact HB.out))) : w.heap.size ≤ gb177)); have n4_ := Aside0.mk ((by rw [hg]; exact (below_size (by repeat (first | (with_reducible first | exact HB.out | apply below_alloc | apply pw_below_drewN | apply below_drew1 | refine below_set ?_ GE176.out) | exact HB.out))) : w.heap.size ≤ gb177)); have n5_ := Aside0.mk ((by rw [hg]; exact Nat.ne_of_lt (blk_lt (g := gb176) (o := .cells #[.int .i16 a0_0, .int .i16 a0_1] 40 (0, 0)) (by (with_reducible repeat (first | refine blk_drewN ?_ _ | refine blk_drew ?_ | refine blk_alloc ?_ _)); exact BK176.out)) : gb176 ≠ gb177)); have n6_ := Aside0.mk ((by rw [hg]; exact Nat.ne_of_gt (blk_lt (g := gb176) (o := .cells #[.int .i16 a0_0, .int .i16 a0_1] 40 (0, 0)) (by (with_reducible repeat (first | refine blk_drewN ?_ _ | refine blk_drew ?_ | refine blk_alloc ?_ _)); exact BK176.out)) : gb177 ≠ gb176)); clear BK176; clear HB; have BK176 := n0_; have HB := n1_; have BK177 := n2_; have GW177 := n3_; have GE177 := n4_; have NB176_177 := n5_; have NB177_176 := n6_; clear n0_ n1_ n2_ n3_ n4_ n5_ n6_; clear hb hbox hg) | ((with_reducible refine gate_callee (f := 14) rfl ?_); refine goesL_ (some 19) rfl rfl Try.func14 (by kernel_rfl) rfl #[] rfl (by (try simp only [List.map_toArray, List.map_cons, List.map_nil]); first | done | rfl | (simp only [List.length_drop, List.length_take]; rfl)) ?_; (with_reducible refine (calamuslaw10_alive.calls k  true _ A3.out).mono ?_); rintro e w15 ⟨rfl, hb⟩; refine ⟨_, rfl, ?_⟩; have n0_ := Aside0.mk (blk_below (g := gb176) (o := .cells #[.int .i16 a0_0, .int .i16 a0_1] 40 (0, 0)) (by (with_reducible repeat (first | refine blk_drewN ?_ _ | refine blk_drew ?_ | refine blk_alloc ?_ _)); exact BK176.out) hb); have n1_ := Aside0.mk (blk_below (g := gb177) (o := .cells #[.int .i16 a1_0, .int .i16 a1_1] 40 (0, 0)) (by (with_reducible repeat (first | refine blk_drewN ?_ _ | refine blk_drew ?_ | refine blk_alloc ?_ _)); exact BK177.out) hb); have n2_ := Aside0.mk (below_step (by repeat (first | (with_reducible first | exact HB.out | apply below_alloc | apply pw_below_drewN | apply below_drew1 | refine below_set ?_ GE176.out | refine below_set ?_ GE177.out) | exact HB.out)) hb); clear BK176; clear BK177; clear HB; have BK176 := n0_; have BK177 := n1_; have HB := n2_; clear n0_ n1_ n2_; (try clear hb); (try clear hb2); (try clear hk); (try clear hi)))
        have n0_ := Aside0.mk (blk_drew BK176.out)
        have n1_ := Aside0.mk (blk_drew BK177.out)
        have n2_ := Aside0.mk (below_drew1 HB.out)
        clear BK176
        clear BK177
        clear HB
        have BK176 := n0_
        have BK177 := n1_
        have HB := n2_
        clear n0_ n1_ n2_
        refine start_ (n := 18) (S := fun w' => w'.cell? ⟨gb176, 0, none⟩ = some (.int .i16 a0_0) ∧ w'.cell? ⟨gb176, 1, none⟩ = some (.int .i16 a0_1) ∧ w'.cell? ⟨gb177, 0, none⟩ = some (.int .i16 a1_0) ∧ w'.cell? ⟨gb177, 1, none⟩ = some (.int .i16 a1_1)) (ds := []) #[false, false, false, false, false, false, false, false, false, false, false, false, false, false, false, false, false, false] (by kernel_rfl) rfl rfl ⟨(blk_cell BK176.out 0).trans rfl, (blk_cell BK176.out 1).trans rfl, (blk_cell BK177.out 0).trans rfl, (blk_cell BK177.out 1).trans rfl⟩ (fun hHeld => ?_); refine with_tabW calamuslaw10_GaussLaws.tab3 calamuslaw10_GaussLaws.bits3 (fun HT_ HW_ => ?_)
        generalize w15.drew = w16 at BK176 BK177 HB hHeld ⊢
        refine pure_ (i := 0) (N := some 21) (v := ?_) (a' := ?_) #[true, false, false, false, false, false, false, false, false, false, false, false, false, false, false, false, false, false] rfl rfl (any_of HT_.out (by kernel_rfl)) (fun _ _ _ h => h) (Or.inl ⟨by rfl, ?_⟩) ?_ ?_
        rotate_left
        · intro w'
          go_simp
          with_reducible rfl
        rotate_left
        · simp only [Act.put, List.setIfInBounds_toArray, List.set_cons_zero, List.set_cons_succ, i64_w, i32_w]
          rfl
        refine pure_ (i := 3) (N := some 24) (v := ?_) (a' := ?_) #[true, false, false, true, false, false, false, false, false, false, false, false, false, false, false, false, false, false] rfl rfl (any_of HT_.out (by kernel_rfl)) (fun _ _ _ h => h) (Or.inl ⟨by rfl, ?_⟩) ?_ ?_
        rotate_left
        · intro w'
          go_simp
          with_reducible rfl
        rotate_left
        · simp only [Act.put, List.setIfInBounds_toArray, List.set_cons_zero, List.set_cons_succ, i64_w, i32_w]
          rfl
        refine pure_ (i := 7) (N := some 28) (v := ?_) (a' := ?_) #[true, false, false, true, false, false, false, true, false, false, false, false, false, false, false, false, false, false] rfl rfl (any_of HT_.out (by kernel_rfl)) (fun _ _ _ h => h) (Or.inl ⟨by rfl, ?_⟩) ?_ ?_
        rotate_left
        · intro w'
          go_simp
          with_reducible rfl
        rotate_left
        · simp only [Act.put, List.setIfInBounds_toArray, List.set_cons_zero, List.set_cons_succ, i64_w, i32_w]
          rfl
        refine pure_ (i := 10) (N := some 31) (v := ?_) (a' := ?_) #[true, false, false, true, false, false, false, true, false, false, true, false, false, false, false, false, false, false] rfl rfl (any_of HT_.out (by kernel_rfl)) (fun _ _ _ h => h) (Or.inl ⟨by rfl, ?_⟩) ?_ ?_
        rotate_left
        · intro w'
          go_simp
          with_reducible rfl
        rotate_left
        · simp only [Act.put, List.setIfInBounds_toArray, List.set_cons_zero, List.set_cons_succ, i64_w, i32_w]
          rfl
        refine take_ (i := 1) (N := some 22) (v := ?_) (a' := ?_) #[true, true, false, true, false, false, false, true, false, false, true, false, false, false, false, false, false, false] rfl rfl (take_ofW HT_.out HW_.out (by kernel_rfl)) (fun _ _ _ h => h) (Or.inl ⟨by rfl, ?_⟩) hHeld ?_ ?_
        rotate_left
        · rintro w' ⟨s0, s1, s2, s3⟩
          go_simp
          with_reducible rfl
        rotate_left
        · simp only [Act.put, List.setIfInBounds_toArray, List.set_cons_zero, List.set_cons_succ, i64_w, i32_w]
          rfl
        refine pure_ (i := 2) (N := some 23) (v := ?_) (a' := ?_) #[true, true, true, true, false, false, false, true, false, false, true, false, false, false, false, false, false, false] rfl rfl (any_of HT_.out (by kernel_rfl)) (fun _ _ _ h => h) (Or.inl ⟨by rfl, ?_⟩) ?_ ?_
        rotate_left
        · intro w'
          go_simp
          with_reducible rfl
        rotate_left
        · simp only [Act.put, List.setIfInBounds_toArray, List.set_cons_zero, List.set_cons_succ, i64_w, i32_w]
          rfl
        refine take_ (i := 4) (N := some 25) (v := ?_) (a' := ?_) #[true, true, true, true, true, false, false, true, false, false, true, false, false, false, false, false, false, false] rfl rfl (take_ofW HT_.out HW_.out (by kernel_rfl)) (fun _ _ _ h => h) (Or.inl ⟨by rfl, ?_⟩) hHeld ?_ ?_
        rotate_left
        · rintro w' ⟨s0, s1, s2, s3⟩
          go_simp
          with_reducible rfl
        rotate_left
        · simp only [Act.put, List.setIfInBounds_toArray, List.set_cons_zero, List.set_cons_succ, i64_w, i32_w]
          rfl
        refine pure_ (i := 5) (N := some 26) (v := ?_) (a' := ?_) #[true, true, true, true, true, true, false, true, false, false, true, false, false, false, false, false, false, false] rfl rfl (any_of HT_.out (by kernel_rfl)) (fun _ _ _ h => h) (Or.inl ⟨by rfl, ?_⟩) ?_ ?_
        rotate_left
        · intro w'
          go_simp
          with_reducible rfl
        rotate_left
        · simp only [Act.put, List.setIfInBounds_toArray, List.set_cons_zero, List.set_cons_succ, i64_w, i32_w]
          rfl
        refine pure_ (i := 6) (N := some 27) (v := ?_) (a' := ?_) #[true, true, true, true, true, true, true, true, false, false, true, false, false, false, false, false, false, false] rfl rfl (any_of HT_.out (by kernel_rfl)) (fun _ _ _ h => h) (Or.inl ⟨by rfl, ?_⟩) ?_ ?_
        rotate_left
        · intro w'
          go_simp
          with_reducible rfl
        rotate_left
        · simp only [Act.put, List.setIfInBounds_toArray, List.set_cons_zero, List.set_cons_succ, i64_w, i32_w]
          rfl
        refine take_ (i := 8) (N := some 29) (v := ?_) (a' := ?_) #[true, true, true, true, true, true, true, true, true, false, true, false, false, false, false, false, false, false] rfl rfl (take_ofW HT_.out HW_.out (by kernel_rfl)) (fun _ _ _ h => h) (Or.inl ⟨by rfl, ?_⟩) hHeld ?_ ?_
        rotate_left
        · rintro w' ⟨s0, s1, s2, s3⟩
          go_simp
          with_reducible rfl
        rotate_left
        · simp only [Act.put, List.setIfInBounds_toArray, List.set_cons_zero, List.set_cons_succ, i64_w, i32_w]
          rfl
        refine pure_ (i := 9) (N := some 30) (v := ?_) (a' := ?_) #[true, true, true, true, true, true, true, true, true, true, true, false, false, false, false, false, false, false] rfl rfl (any_of HT_.out (by kernel_rfl)) (fun _ _ _ h => h) (Or.inl ⟨by rfl, ?_⟩) ?_ ?_
        rotate_left
        · intro w'
          go_simp
          with_reducible rfl
        rotate_left
        · simp only [Act.put, List.setIfInBounds_toArray, List.set_cons_zero, List.set_cons_succ, i64_w, i32_w]
          rfl
        refine take_ (i := 11) (N := some 32) (v := ?_) (a' := ?_) #[true, true, true, true, true, true, true, true, true, true, true, true, false, false, false, false, false, false] rfl rfl (take_ofW HT_.out HW_.out (by kernel_rfl)) (fun _ _ _ h => h) (Or.inl ⟨by rfl, ?_⟩) hHeld ?_ ?_
        rotate_left
        · rintro w' ⟨s0, s1, s2, s3⟩
          go_simp
          with_reducible rfl
        rotate_left
        · simp only [Act.put, List.setIfInBounds_toArray, List.set_cons_zero, List.set_cons_succ, i64_w, i32_w]
          rfl
        refine pure_ (i := 12) (N := some 33) (v := ?_) (a' := ?_) #[true, true, true, true, true, true, true, true, true, true, true, true, true, false, false, false, false, false] rfl rfl (any_of HT_.out (by kernel_rfl)) (fun _ _ _ h => h) (Or.inl ⟨by rfl, ?_⟩) ?_ ?_
        rotate_left
        · intro w'
          go_simp
          with_reducible rfl
        rotate_left
        · simp only [Act.put, List.setIfInBounds_toArray, List.set_cons_zero, List.set_cons_succ, i64_w, i32_w]
          rfl
        refine pure_ (i := 13) (N := some 34) (v := ?_) (a' := ?_) #[true, true, true, true, true, true, true, true, true, true, true, true, true, true, false, false, false, false] rfl rfl (any_of HT_.out (by kernel_rfl)) (fun _ _ _ h => h) (Or.inl ⟨by rfl, ?_⟩) ?_ ?_
        rotate_left
        · intro w'
          go_simp
          with_reducible rfl
        rotate_left
        · simp only [Act.put, List.setIfInBounds_toArray, List.set_cons_zero, List.set_cons_succ, i64_w, i32_w]
          rfl
        refine join_ (σ := Nat × Nat) 2 #[true, true, true, true, true, true, true, true, true, true, true, true, true, true, true, true, false, false] (fun s_ => [(5, .pointer (some ⟨s_.1, 0, none⟩)), (6, .pointer (some ⟨s_.2, 0, none⟩))]) (fun s_ w' => (w'.cell? ⟨gb176, 0, none⟩ = some (.int .i16 a0_0) ∧ w'.cell? ⟨gb176, 1, none⟩ = some (.int .i16 a0_1) ∧ w'.cell? ⟨gb177, 0, none⟩ = some (.int .i16 a1_0) ∧ w'.cell? ⟨gb177, 1, none⟩ = some (.int .i16 a1_1)) ∧ (w'.heap[gb176]? = some (.cells #[.int .i16 a0_0, .int .i16 a0_1] 40 (0, 0))) ∧ (w'.heap[gb177]? = some (.cells #[.int .i16 a1_0, .int .i16 a1_1] 40 (0, 0))) ∧ (w'.heap[s_.1]? = some (.cells #[.int .i64 0, .int .i64 0] 23 (0, 0))) ∧ (w'.heap[s_.2]? = some (.cells #[.int .i64 0, .int .i64 0] 23 (0, 0))) ∧ (w.heap.size ≤ s_.1) ∧ (w.heap.size ≤ s_.1) ∧ (gb176 ≠ s_.1) ∧ (s_.1 ≠ gb176) ∧ (gb177 ≠ s_.1) ∧ (s_.1 ≠ gb177) ∧ (s_.2 ≠ s_.1) ∧ (s_.1 ≠ s_.2) ∧ (w.heap.size ≤ s_.2) ∧ (w.heap.size ≤ s_.2) ∧ (gb176 ≠ s_.2) ∧ (s_.2 ≠ gb176) ∧ (gb177 ≠ s_.2) ∧ (s_.2 ≠ gb177) ∧ (Below w.heap.size w w')) ?_ ?_
        rotate_left
        · intro hCont
          refine two_ (i := 14) (j := 15) (Ni := some 5) (Nj := some 6) #[true, true, true, true, true, true, true, true, true, true, true, true, true, true, true, false, false, false] #[true, true, true, true, true, true, true, true, true, true, true, true, true, true, false, true, false, false] rfl rfl rfl rfl (two_of HT_.out (by kernel_rfl)) (by decide) (by decide) (fun K hK => ?_) (fun K hK => ?_)
          · skip
            refine box_step ?hg (N := 5) ?hd (cs := #[.int .i64 0, .int .i64 0]) (t := 23) ?hr ?_; (case hd => rfl); (case hg => rfl); (case hr => first | (go_simp; done) | (go_simp; rfl))
            intro gb179 hg w17 hbox hb
            have n0_ := Aside0.mk (blk_below (g := gb176) (o := .cells #[.int .i16 a0_0, .int .i16 a0_1] 40 (0, 0)) (by (with_reducible repeat (first | refine blk_drewN ?_ _ | refine blk_drew ?_ | refine blk_alloc ?_ _)); exact BK176.out) hb)
            have n1_ := Aside0.mk (blk_below (g := gb177) (o := .cells #[.int .i16 a1_0, .int .i16 a1_1] 40 (0, 0)) (by (with_reducible repeat (first | refine blk_drewN ?_ _ | refine blk_drew ?_ | refine blk_alloc ?_ _)); exact BK177.out) hb)
            have n2_ := Aside0.mk (below_step (by repeat (first | (with_reducible first | exact HB.out | apply below_alloc | apply pw_below_drewN | apply below_drew1 | refine below_set ?_ GE176.out | refine below_set ?_ GE177.out) | exact HB.out)) hb)
            have n3_ := Aside0.mk (hbox)
            have n4_ := Aside0.mk ((by rw [hg]; exact (below_size (by repeat (first | (with_reducible first | exact HB.out | apply below_alloc | apply pw_below_drewN | apply below_drew1 | refine below_set ?_ GE176.out | refine below_set ?_ GE177.out) | exact HB.out))) : w.heap.size ≤ gb179))
            have n5_ := Aside0.mk ((by rw [hg]; exact (below_size (by repeat (first | (with_reducible first | exact HB.out | apply below_alloc | apply pw_below_drewN | apply below_drew1 | refine below_set ?_ GE176.out | refine below_set ?_ GE177.out) | exact HB.out))) : w.heap.size ≤ gb179))
            have n6_ := Aside0.mk ((by rw [hg]; exact Nat.ne_of_lt (blk_lt (g := gb176) (o := .cells #[.int .i16 a0_0, .int .i16 a0_1] 40 (0, 0)) (by (with_reducible repeat (first | refine blk_drewN ?_ _ | refine blk_drew ?_ | refine blk_alloc ?_ _)); exact BK176.out)) : gb176 ≠ gb179))
            have n7_ := Aside0.mk ((by rw [hg]; exact Nat.ne_of_gt (blk_lt (g := gb176) (o := .cells #[.int .i16 a0_0, .int .i16 a0_1] 40 (0, 0)) (by (with_reducible repeat (first | refine blk_drewN ?_ _ | refine blk_drew ?_ | refine blk_alloc ?_ _)); exact BK176.out)) : gb179 ≠ gb176))
            have n8_ := Aside0.mk ((by rw [hg]; exact Nat.ne_of_lt (blk_lt (g := gb177) (o := .cells #[.int .i16 a1_0, .int .i16 a1_1] 40 (0, 0)) (by (with_reducible repeat (first | refine blk_drewN ?_ _ | refine blk_drew ?_ | refine blk_alloc ?_ _)); exact BK177.out)) : gb177 ≠ gb179))
            have n9_ := Aside0.mk ((by rw [hg]; exact Nat.ne_of_gt (blk_lt (g := gb177) (o := .cells #[.int .i16 a1_0, .int .i16 a1_1] 40 (0, 0)) (by (with_reducible repeat (first | refine blk_drewN ?_ _ | refine blk_drew ?_ | refine blk_alloc ?_ _)); exact BK177.out)) : gb179 ≠ gb177))
            clear BK176
            clear BK177
            clear HB
            have BK176 := n0_
            have BK177 := n1_
            have HB := n2_
            have BK179 := n3_
            have GW179 := n4_
            have GE179 := n5_
            have NB176_179 := n6_
            have NB179_176 := n7_
            have NB177_179 := n8_
            have NB179_177 := n9_
            clear n0_ n1_ n2_ n3_ n4_ n5_ n6_ n7_ n8_ n9_
            clear hb hbox hg
            refine hK.out _ _ ⟨(blk_cell BK176.out 0).trans rfl, (blk_cell BK176.out 1).trans rfl, (blk_cell BK177.out 0).trans rfl, (blk_cell BK177.out 1).trans rfl⟩ (fun hHeld => ?_)
            clear hK K
            refine norm_ (a' := ?_) ?_ ?_
            rotate_left
            · show Act.put _ (some 5) _ = _
              simp only [Act.put, List.setIfInBounds_toArray, List.set_cons_zero, List.set_cons_succ, i64_w, i32_w]
              rfl
            refine one_ (i := 15) (N := some 6) #[true, true, true, true, true, true, true, true, true, true, true, true, true, true, true, true, false, false] rfl rfl (one_of HT_.out (by kernel_rfl)) (by decide) (fun K hK => ?_)
            refine box_step ?hg (N := 6) ?hd (cs := #[.int .i64 0, .int .i64 0]) (t := 23) ?hr ?_; (case hd => rfl); (case hg => rfl); (case hr => first | (go_simp; done) | (go_simp; rfl))
            intro gb180 hg w18 hbox hb
            have n0_ := Aside0.mk (blk_below (g := gb176) (o := .cells #[.int .i16 a0_0, .int .i16 a0_1] 40 (0, 0)) (by (with_reducible repeat (first | refine blk_drewN ?_ _ | refine blk_drew ?_ | refine blk_alloc ?_ _)); exact BK176.out) hb)
            have n1_ := Aside0.mk (blk_below (g := gb177) (o := .cells #[.int .i16 a1_0, .int .i16 a1_1] 40 (0, 0)) (by (with_reducible repeat (first | refine blk_drewN ?_ _ | refine blk_drew ?_ | refine blk_alloc ?_ _)); exact BK177.out) hb)
            have n2_ := Aside0.mk (blk_below (g := gb179) (o := .cells #[.int .i64 0, .int .i64 0] 23 (0, 0)) (by (with_reducible repeat (first | refine blk_drewN ?_ _ | refine blk_drew ?_ | refine blk_alloc ?_ _)); exact BK179.out) hb)
            have n3_ := Aside0.mk (below_step (by repeat (first | (with_reducible first | exact HB.out | apply below_alloc | apply pw_below_drewN | apply below_drew1 | refine below_set ?_ GE176.out | refine below_set ?_ GE177.out | refine below_set ?_ GE179.out) | exact HB.out)) hb)
            have n4_ := Aside0.mk (hbox)
            have n5_ := Aside0.mk ((by rw [hg]; exact (below_size (by repeat (first | (with_reducible first | exact HB.out | apply below_alloc | apply pw_below_drewN | apply below_drew1 | refine below_set ?_ GE176.out | refine below_set ?_ GE177.out | refine below_set ?_ GE179.out) | exact HB.out))) : w.heap.size ≤ gb180))
            have n6_ := Aside0.mk ((by rw [hg]; exact (below_size (by repeat (first | (with_reducible first | exact HB.out | apply below_alloc | apply pw_below_drewN | apply below_drew1 | refine below_set ?_ GE176.out | refine below_set ?_ GE177.out | refine below_set ?_ GE179.out) | exact HB.out))) : w.heap.size ≤ gb180))
            have n7_ := Aside0.mk ((by rw [hg]; exact Nat.ne_of_lt (blk_lt (g := gb176) (o := .cells #[.int .i16 a0_0, .int .i16 a0_1] 40 (0, 0)) (by (with_reducible repeat (first | refine blk_drewN ?_ _ | refine blk_drew ?_ | refine blk_alloc ?_ _)); exact BK176.out)) : gb176 ≠ gb180))
            have n8_ := Aside0.mk ((by rw [hg]; exact Nat.ne_of_gt (blk_lt (g := gb176) (o := .cells #[.int .i16 a0_0, .int .i16 a0_1] 40 (0, 0)) (by (with_reducible repeat (first | refine blk_drewN ?_ _ | refine blk_drew ?_ | refine blk_alloc ?_ _)); exact BK176.out)) : gb180 ≠ gb176))
            have n9_ := Aside0.mk ((by rw [hg]; exact Nat.ne_of_lt (blk_lt (g := gb177) (o := .cells #[.int .i16 a1_0, .int .i16 a1_1] 40 (0, 0)) (by (with_reducible repeat (first | refine blk_drewN ?_ _ | refine blk_drew ?_ | refine blk_alloc ?_ _)); exact BK177.out)) : gb177 ≠ gb180))
            have n10_ := Aside0.mk ((by rw [hg]; exact Nat.ne_of_gt (blk_lt (g := gb177) (o := .cells #[.int .i16 a1_0, .int .i16 a1_1] 40 (0, 0)) (by (with_reducible repeat (first | refine blk_drewN ?_ _ | refine blk_drew ?_ | refine blk_alloc ?_ _)); exact BK177.out)) : gb180 ≠ gb177))
            have n11_ := Aside0.mk ((by rw [hg]; exact Nat.ne_of_lt (blk_lt (g := gb179) (o := .cells #[.int .i64 0, .int .i64 0] 23 (0, 0)) (by (with_reducible repeat (first | refine blk_drewN ?_ _ | refine blk_drew ?_ | refine blk_alloc ?_ _)); exact BK179.out)) : gb179 ≠ gb180))
            have n12_ := Aside0.mk ((by rw [hg]; exact Nat.ne_of_gt (blk_lt (g := gb179) (o := .cells #[.int .i64 0, .int .i64 0] 23 (0, 0)) (by (with_reducible repeat (first | refine blk_drewN ?_ _ | refine blk_drew ?_ | refine blk_alloc ?_ _)); exact BK179.out)) : gb180 ≠ gb179))
            clear BK176
            clear BK177
            clear BK179
            clear HB
            have BK176 := n0_
            have BK177 := n1_
            have BK179 := n2_
            have HB := n3_
            have BK180 := n4_
            have GW180 := n5_
            have GE180 := n6_
            have NB176_180 := n7_
            have NB180_176 := n8_
            have NB177_180 := n9_
            have NB180_177 := n10_
            have NB179_180 := n11_
            have NB180_179 := n12_
            clear n0_ n1_ n2_ n3_ n4_ n5_ n6_ n7_ n8_ n9_ n10_ n11_ n12_
            clear hb hbox hg
            refine hK.out _ _ ⟨(blk_cell BK176.out 0).trans rfl, (blk_cell BK176.out 1).trans rfl, (blk_cell BK177.out 0).trans rfl, (blk_cell BK177.out 1).trans rfl⟩ (fun hHeld => ?_)
            clear hK K
            refine norm_ (a' := ?_) ?_ ?_
            rotate_left
            · show Act.put _ (some 6) _ = _
              simp only [Act.put, List.setIfInBounds_toArray, List.set_cons_zero, List.set_cons_succ, i64_w, i32_w]
              rfl
            exact norm_ (by simp only [putAll, Act.put, List.setIfInBounds_toArray, List.set_cons_zero, List.set_cons_succ]) (hCont (gb179, gb180) _ ⟨hHeld, (by (with_reducible repeat (first | refine blk_drewN ?_ _ | refine blk_drew ?_ | refine blk_alloc ?_ _)); exact BK176.out), (by (with_reducible repeat (first | refine blk_drewN ?_ _ | refine blk_drew ?_ | refine blk_alloc ?_ _)); exact BK177.out), (by (with_reducible repeat (first | refine blk_drewN ?_ _ | refine blk_drew ?_ | refine blk_alloc ?_ _)); exact BK179.out), (by (with_reducible repeat (first | refine blk_drewN ?_ _ | refine blk_drew ?_ | refine blk_alloc ?_ _)); exact BK180.out), GW179.out, GE179.out, NB176_179.out, NB179_176.out, NB177_179.out, NB179_177.out, NB180_179.out, NB179_180.out, GW180.out, GE180.out, NB176_180.out, NB180_176.out, NB177_180.out, NB180_177.out, (by repeat (first | (with_reducible first | exact HB.out | apply below_alloc | apply pw_below_drewN | apply below_drew1 | refine below_set ?_ GE176.out | refine below_set ?_ GE177.out | refine below_set ?_ GE179.out | refine below_set ?_ GE180.out) | exact HB.out))⟩)
          · skip
            refine box_step ?hg (N := 6) ?hd (cs := #[.int .i64 0, .int .i64 0]) (t := 23) ?hr ?_; (case hd => rfl); (case hg => rfl); (case hr => first | (go_simp; done) | (go_simp; rfl))
            intro gb180 hg w17 hbox hb
            have n0_ := Aside0.mk (blk_below (g := gb176) (o := .cells #[.int .i16 a0_0, .int .i16 a0_1] 40 (0, 0)) (by (with_reducible repeat (first | refine blk_drewN ?_ _ | refine blk_drew ?_ | refine blk_alloc ?_ _)); exact BK176.out) hb)
            have n1_ := Aside0.mk (blk_below (g := gb177) (o := .cells #[.int .i16 a1_0, .int .i16 a1_1] 40 (0, 0)) (by (with_reducible repeat (first | refine blk_drewN ?_ _ | refine blk_drew ?_ | refine blk_alloc ?_ _)); exact BK177.out) hb)
            have n2_ := Aside0.mk (below_step (by repeat (first | (with_reducible first | exact HB.out | apply below_alloc | apply pw_below_drewN | apply below_drew1 | refine below_set ?_ GE176.out | refine below_set ?_ GE177.out) | exact HB.out)) hb)
            have n3_ := Aside0.mk (hbox)
            have n4_ := Aside0.mk ((by rw [hg]; exact (below_size (by repeat (first | (with_reducible first | exact HB.out | apply below_alloc | apply pw_below_drewN | apply below_drew1 | refine below_set ?_ GE176.out | refine below_set ?_ GE177.out) | exact HB.out))) : w.heap.size ≤ gb180))
            have n5_ := Aside0.mk ((by rw [hg]; exact (below_size (by repeat (first | (with_reducible first | exact HB.out | apply below_alloc | apply pw_below_drewN | apply below_drew1 | refine below_set ?_ GE176.out | refine below_set ?_ GE177.out) | exact HB.out))) : w.heap.size ≤ gb180))
            have n6_ := Aside0.mk ((by rw [hg]; exact Nat.ne_of_lt (blk_lt (g := gb176) (o := .cells #[.int .i16 a0_0, .int .i16 a0_1] 40 (0, 0)) (by (with_reducible repeat (first | refine blk_drewN ?_ _ | refine blk_drew ?_ | refine blk_alloc ?_ _)); exact BK176.out)) : gb176 ≠ gb180))
            have n7_ := Aside0.mk ((by rw [hg]; exact Nat.ne_of_gt (blk_lt (g := gb176) (o := .cells #[.int .i16 a0_0, .int .i16 a0_1] 40 (0, 0)) (by (with_reducible repeat (first | refine blk_drewN ?_ _ | refine blk_drew ?_ | refine blk_alloc ?_ _)); exact BK176.out)) : gb180 ≠ gb176))
            have n8_ := Aside0.mk ((by rw [hg]; exact Nat.ne_of_lt (blk_lt (g := gb177) (o := .cells #[.int .i16 a1_0, .int .i16 a1_1] 40 (0, 0)) (by (with_reducible repeat (first | refine blk_drewN ?_ _ | refine blk_drew ?_ | refine blk_alloc ?_ _)); exact BK177.out)) : gb177 ≠ gb180))
            have n9_ := Aside0.mk ((by rw [hg]; exact Nat.ne_of_gt (blk_lt (g := gb177) (o := .cells #[.int .i16 a1_0, .int .i16 a1_1] 40 (0, 0)) (by (with_reducible repeat (first | refine blk_drewN ?_ _ | refine blk_drew ?_ | refine blk_alloc ?_ _)); exact BK177.out)) : gb180 ≠ gb177))
            clear BK176
            clear BK177
            clear HB
            have BK176 := n0_
            have BK177 := n1_
            have HB := n2_
            have BK180 := n3_
            have GW180 := n4_
            have GE180 := n5_
            have NB176_180 := n6_
            have NB180_176 := n7_
            have NB177_180 := n8_
            have NB180_177 := n9_
            clear n0_ n1_ n2_ n3_ n4_ n5_ n6_ n7_ n8_ n9_
            clear hb hbox hg
            refine hK.out _ _ ⟨(blk_cell BK176.out 0).trans rfl, (blk_cell BK176.out 1).trans rfl, (blk_cell BK177.out 0).trans rfl, (blk_cell BK177.out 1).trans rfl⟩ (fun hHeld => ?_)
            clear hK K
            refine norm_ (a' := ?_) ?_ ?_
            rotate_left
            · show Act.put _ (some 6) _ = _
              simp only [Act.put, List.setIfInBounds_toArray, List.set_cons_zero, List.set_cons_succ, i64_w, i32_w]
              rfl
            refine one_ (i := 14) (N := some 5) #[true, true, true, true, true, true, true, true, true, true, true, true, true, true, true, true, false, false] rfl rfl (one_of HT_.out (by kernel_rfl)) (by decide) (fun K hK => ?_)
            refine box_step ?hg (N := 5) ?hd (cs := #[.int .i64 0, .int .i64 0]) (t := 23) ?hr ?_; (case hd => rfl); (case hg => rfl); (case hr => first | (go_simp; done) | (go_simp; rfl))
            intro gb179 hg w18 hbox hb
            have n0_ := Aside0.mk (blk_below (g := gb176) (o := .cells #[.int .i16 a0_0, .int .i16 a0_1] 40 (0, 0)) (by (with_reducible repeat (first | refine blk_drewN ?_ _ | refine blk_drew ?_ | refine blk_alloc ?_ _)); exact BK176.out) hb)
            have n1_ := Aside0.mk (blk_below (g := gb177) (o := .cells #[.int .i16 a1_0, .int .i16 a1_1] 40 (0, 0)) (by (with_reducible repeat (first | refine blk_drewN ?_ _ | refine blk_drew ?_ | refine blk_alloc ?_ _)); exact BK177.out) hb)
            have n2_ := Aside0.mk (blk_below (g := gb180) (o := .cells #[.int .i64 0, .int .i64 0] 23 (0, 0)) (by (with_reducible repeat (first | refine blk_drewN ?_ _ | refine blk_drew ?_ | refine blk_alloc ?_ _)); exact BK180.out) hb)
            have n3_ := Aside0.mk (below_step (by repeat (first | (with_reducible first | exact HB.out | apply below_alloc | apply pw_below_drewN | apply below_drew1 | refine below_set ?_ GE176.out | refine below_set ?_ GE177.out | refine below_set ?_ GE180.out) | exact HB.out)) hb)
            have n4_ := Aside0.mk (hbox)
            have n5_ := Aside0.mk ((by rw [hg]; exact (below_size (by repeat (first | (with_reducible first | exact HB.out | apply below_alloc | apply pw_below_drewN | apply below_drew1 | refine below_set ?_ GE176.out | refine below_set ?_ GE177.out | refine below_set ?_ GE180.out) | exact HB.out))) : w.heap.size ≤ gb179))
            have n6_ := Aside0.mk ((by rw [hg]; exact (below_size (by repeat (first | (with_reducible first | exact HB.out | apply below_alloc | apply pw_below_drewN | apply below_drew1 | refine below_set ?_ GE176.out | refine below_set ?_ GE177.out | refine below_set ?_ GE180.out) | exact HB.out))) : w.heap.size ≤ gb179))
            have n7_ := Aside0.mk ((by rw [hg]; exact Nat.ne_of_lt (blk_lt (g := gb176) (o := .cells #[.int .i16 a0_0, .int .i16 a0_1] 40 (0, 0)) (by (with_reducible repeat (first | refine blk_drewN ?_ _ | refine blk_drew ?_ | refine blk_alloc ?_ _)); exact BK176.out)) : gb176 ≠ gb179))
            have n8_ := Aside0.mk ((by rw [hg]; exact Nat.ne_of_gt (blk_lt (g := gb176) (o := .cells #[.int .i16 a0_0, .int .i16 a0_1] 40 (0, 0)) (by (with_reducible repeat (first | refine blk_drewN ?_ _ | refine blk_drew ?_ | refine blk_alloc ?_ _)); exact BK176.out)) : gb179 ≠ gb176))
            have n9_ := Aside0.mk ((by rw [hg]; exact Nat.ne_of_lt (blk_lt (g := gb177) (o := .cells #[.int .i16 a1_0, .int .i16 a1_1] 40 (0, 0)) (by (with_reducible repeat (first | refine blk_drewN ?_ _ | refine blk_drew ?_ | refine blk_alloc ?_ _)); exact BK177.out)) : gb177 ≠ gb179))
            have n10_ := Aside0.mk ((by rw [hg]; exact Nat.ne_of_gt (blk_lt (g := gb177) (o := .cells #[.int .i16 a1_0, .int .i16 a1_1] 40 (0, 0)) (by (with_reducible repeat (first | refine blk_drewN ?_ _ | refine blk_drew ?_ | refine blk_alloc ?_ _)); exact BK177.out)) : gb179 ≠ gb177))
            have n11_ := Aside0.mk ((by rw [hg]; exact Nat.ne_of_lt (blk_lt (g := gb180) (o := .cells #[.int .i64 0, .int .i64 0] 23 (0, 0)) (by (with_reducible repeat (first | refine blk_drewN ?_ _ | refine blk_drew ?_ | refine blk_alloc ?_ _)); exact BK180.out)) : gb180 ≠ gb179))
            have n12_ := Aside0.mk ((by rw [hg]; exact Nat.ne_of_gt (blk_lt (g := gb180) (o := .cells #[.int .i64 0, .int .i64 0] 23 (0, 0)) (by (with_reducible repeat (first | refine blk_drewN ?_ _ | refine blk_drew ?_ | refine blk_alloc ?_ _)); exact BK180.out)) : gb179 ≠ gb180))
            clear BK176
            clear BK177
            clear BK180
            clear HB
            have BK176 := n0_
            have BK177 := n1_
            have BK180 := n2_
            have HB := n3_
            have BK179 := n4_
            have GW179 := n5_
            have GE179 := n6_
            have NB176_179 := n7_
            have NB179_176 := n8_
            have NB177_179 := n9_
            have NB179_177 := n10_
            have NB180_179 := n11_
            have NB179_180 := n12_
            clear n0_ n1_ n2_ n3_ n4_ n5_ n6_ n7_ n8_ n9_ n10_ n11_ n12_
            clear hb hbox hg
            refine hK.out _ _ ⟨(blk_cell BK176.out 0).trans rfl, (blk_cell BK176.out 1).trans rfl, (blk_cell BK177.out 0).trans rfl, (blk_cell BK177.out 1).trans rfl⟩ (fun hHeld => ?_)
            clear hK K
            refine norm_ (a' := ?_) ?_ ?_
            rotate_left
            · show Act.put _ (some 5) _ = _
              simp only [Act.put, List.setIfInBounds_toArray, List.set_cons_zero, List.set_cons_succ, i64_w, i32_w]
              rfl
            exact norm_ (by simp only [putAll, Act.put, List.setIfInBounds_toArray, List.set_cons_zero, List.set_cons_succ]) (hCont (gb179, gb180) _ ⟨hHeld, (by (with_reducible repeat (first | refine blk_drewN ?_ _ | refine blk_drew ?_ | refine blk_alloc ?_ _)); exact BK176.out), (by (with_reducible repeat (first | refine blk_drewN ?_ _ | refine blk_drew ?_ | refine blk_alloc ?_ _)); exact BK177.out), (by (with_reducible repeat (first | refine blk_drewN ?_ _ | refine blk_drew ?_ | refine blk_alloc ?_ _)); exact BK179.out), (by (with_reducible repeat (first | refine blk_drewN ?_ _ | refine blk_drew ?_ | refine blk_alloc ?_ _)); exact BK180.out), GW179.out, GE179.out, NB176_179.out, NB179_176.out, NB177_179.out, NB179_177.out, NB180_179.out, NB179_180.out, GW180.out, GE180.out, NB176_180.out, NB180_176.out, NB177_180.out, NB180_177.out, (by repeat (first | (with_reducible first | exact HB.out | apply below_alloc | apply pw_below_drewN | apply below_drew1 | refine below_set ?_ GE176.out | refine below_set ?_ GE177.out | refine below_set ?_ GE180.out | refine below_set ?_ GE179.out) | exact HB.out))⟩)
        rintro ⟨gb179, gb180⟩ w19 ⟨hS_, h0_, h1_, h2_, h3_, h4_, h5_, h6_, h7_, h8_, h9_, h10_, h11_, h12_, h13_, h14_, h15_, h16_, h17_, h18_⟩
        have n0_ : Aside0 (w19.heap[gb176]? = some (.cells #[.int .i16 a0_0, .int .i16 a0_1] 40 (0, 0))) := ⟨h0_⟩
        have n1_ : Aside0 (w19.heap[gb177]? = some (.cells #[.int .i16 a1_0, .int .i16 a1_1] 40 (0, 0))) := ⟨h1_⟩
        have n2_ : Aside0 (w19.heap[gb179]? = some (.cells #[.int .i64 0, .int .i64 0] 23 (0, 0))) := ⟨h2_⟩
        have n3_ : Aside0 (w19.heap[gb180]? = some (.cells #[.int .i64 0, .int .i64 0] 23 (0, 0))) := ⟨h3_⟩
        have n4_ : Aside0 (w.heap.size ≤ gb179) := ⟨h4_⟩
        have n5_ : Aside0 (w.heap.size ≤ gb179) := ⟨h5_⟩
        have n6_ : Aside0 (gb176 ≠ gb179) := ⟨h6_⟩
        have n7_ : Aside0 (gb179 ≠ gb176) := ⟨h7_⟩
        have n8_ : Aside0 (gb177 ≠ gb179) := ⟨h8_⟩
        have n9_ : Aside0 (gb179 ≠ gb177) := ⟨h9_⟩
        have n10_ : Aside0 (gb180 ≠ gb179) := ⟨h10_⟩
        have n11_ : Aside0 (gb179 ≠ gb180) := ⟨h11_⟩
        have n12_ : Aside0 (w.heap.size ≤ gb180) := ⟨h12_⟩
        have n13_ : Aside0 (w.heap.size ≤ gb180) := ⟨h13_⟩
        have n14_ : Aside0 (gb176 ≠ gb180) := ⟨h14_⟩
        have n15_ : Aside0 (gb180 ≠ gb176) := ⟨h15_⟩
        have n16_ : Aside0 (gb177 ≠ gb180) := ⟨h16_⟩
        have n17_ : Aside0 (gb180 ≠ gb177) := ⟨h17_⟩
        have n18_ : Aside0 (Below w.heap.size w w19) := ⟨h18_⟩
        clear BK176
        clear BK177
        clear HB
        clear h0_ h1_ h2_ h3_ h4_ h5_ h6_ h7_ h8_ h9_ h10_ h11_ h12_ h13_ h14_ h15_ h16_ h17_ h18_
        have BK176 := n0_
        have BK177 := n1_
        have BK179 := n2_
        have BK180 := n3_
        have GW179 := n4_
        have GE179 := n5_
        have NB176_179 := n6_
        have NB179_176 := n7_
        have NB177_179 := n8_
        have NB179_177 := n9_
        have NB180_179 := n10_
        have NB179_180 := n11_
        have GW180 := n12_
        have GE180 := n13_
        have NB176_180 := n14_
        have NB180_176 := n15_
        have NB177_180 := n16_
        have NB180_177 := n17_
        have HB := n18_
        clear n0_ n1_ n2_ n3_ n4_ n5_ n6_ n7_ n8_ n9_ n10_ n11_ n12_ n13_ n14_ n15_ n16_ n17_ n18_
        have hHeld : w19.cell? ⟨gb176, 0, none⟩ = some (.int .i16 a0_0) ∧ w19.cell? ⟨gb176, 1, none⟩ = some (.int .i16 a0_1) ∧ w19.cell? ⟨gb177, 0, none⟩ = some (.int .i16 a1_0) ∧ w19.cell? ⟨gb177, 1, none⟩ = some (.int .i16 a1_1) := hS_
        refine norm_ (a' := ?_) ?_ ?_
        rotate_left
        · simp only [putAll, Act.put, List.setIfInBounds_toArray, List.set_cons_zero, List.set_cons_succ]
          rfl
        refine one_ (i := 16) (N := none) #[true, true, true, true, true, true, true, true, true, true, true, true, true, true, true, true, true, false] rfl rfl (one_of HT_.out (by kernel_rfl)) (by decide) (fun K hK => ?_)
        have hs20 : w19.cell? ⟨gb179, 0, none⟩ = some (.int .i64 0) := (blk_cell BK179.out 0).trans rfl
        have hfs20 := blk_frozen BK179.out 0
        have hns20_0 := NB176_179.out
        have hns20_1 := NB177_179.out
        have hns20_3 := NB180_179.out
        have hms20_0 := NB179_176.out
        have hms20_1 := NB179_177.out
        have hms20_3 := NB179_180.out
        have hs21 : w19.cell? ⟨gb179, 1, none⟩ = some (.int .i64 0) := (blk_cell BK179.out 1).trans rfl
        have hfs21 := blk_frozen BK179.out 1
        have hns21_0 := NB176_179.out
        have hns21_1 := NB177_179.out
        have hns21_3 := NB180_179.out
        have hms21_0 := NB179_176.out
        have hms21_1 := NB179_177.out
        have hms21_3 := NB179_180.out
        refine skip_ (w1 := ?_) ?_ ?_ ?_ ?_
        rotate_left
        · rfl
        · rfl
        · go_simp
          rfl
        clear hs20 hfs20 hns20_0 hns20_1 hns20_3 hms20_0 hms20_1 hms20_3 hs21 hfs21 hns21_0 hns21_1 hns21_3 hms21_0 hms21_1 hms21_3
        refine hK.out _ _ ⟨((cell_far (p := ⟨gb179, _, none⟩) NB176_179.out _).trans (((cell_far (p := ⟨gb179, _, none⟩) NB176_179.out _).trans (hHeld.1)))), ((cell_far (p := ⟨gb179, _, none⟩) NB176_179.out _).trans (((cell_far (p := ⟨gb179, _, none⟩) NB176_179.out _).trans (hHeld.2.1)))), ((cell_far (p := ⟨gb179, _, none⟩) NB177_179.out _).trans (((cell_far (p := ⟨gb179, _, none⟩) NB177_179.out _).trans (hHeld.2.2.1)))), ((cell_far (p := ⟨gb179, _, none⟩) NB177_179.out _).trans (((cell_far (p := ⟨gb179, _, none⟩) NB177_179.out _).trans (hHeld.2.2.2))))⟩ (fun hHeld => ?_)
        clear hK K
        refine one_ (i := 17) (N := none) #[true, true, true, true, true, true, true, true, true, true, true, true, true, true, true, true, true, true] rfl rfl (one_of HT_.out (by kernel_rfl)) (by decide) (fun K hK => ?_)
        have hs22 : w19.cell? ⟨gb180, 0, none⟩ = some (.int .i64 0) := (blk_cell BK180.out 0).trans rfl
        have hfs22 := blk_frozen BK180.out 0
        have hns22_0 := NB176_180.out
        have hns22_1 := NB177_180.out
        have hns22_2 := NB179_180.out
        have hms22_0 := NB180_176.out
        have hms22_1 := NB180_177.out
        have hms22_2 := NB180_179.out
        have hs23 : w19.cell? ⟨gb180, 1, none⟩ = some (.int .i64 0) := (blk_cell BK180.out 1).trans rfl
        have hfs23 := blk_frozen BK180.out 1
        have hns23_0 := NB176_180.out
        have hns23_1 := NB177_180.out
        have hns23_2 := NB179_180.out
        have hms23_0 := NB180_176.out
        have hms23_1 := NB180_177.out
        have hms23_2 := NB180_179.out
        refine skip_ (w1 := ?_) ?_ ?_ ?_ ?_
        rotate_left
        · rfl
        · rfl
        · go_simp
          rfl
        clear hs22 hfs22 hns22_0 hns22_1 hns22_2 hms22_0 hms22_1 hms22_2 hs23 hfs23 hns23_0 hns23_1 hns23_2 hms23_0 hms23_1 hms23_2
        refine hK.out _ _ ⟨((cell_far (p := ⟨gb180, _, none⟩) NB176_180.out _).trans (((cell_far (p := ⟨gb180, _, none⟩) NB176_180.out _).trans (hHeld.1)))), ((cell_far (p := ⟨gb180, _, none⟩) NB176_180.out _).trans (((cell_far (p := ⟨gb180, _, none⟩) NB176_180.out _).trans (hHeld.2.1)))), ((cell_far (p := ⟨gb180, _, none⟩) NB177_180.out _).trans (((cell_far (p := ⟨gb180, _, none⟩) NB177_180.out _).trans (hHeld.2.2.1)))), ((cell_far (p := ⟨gb180, _, none⟩) NB177_180.out _).trans (((cell_far (p := ⟨gb180, _, none⟩) NB177_180.out _).trans (hHeld.2.2.2))))⟩ (fun hHeld => ?_)
        clear hK K
        refine done_ (done_of HT_.out (by kernel_rfl)) ?_
        have hnb24 := NB179_176.out
        have hnc24 := NB176_179.out
        have hnb25 := NB179_177.out
        have hnc25 := NB177_179.out
        have hnb26 := NB179_180.out
        have hnc26 := NB180_179.out
        have hcz27_0 : w19.cell? ⟨gb179, 0, none⟩ = some (.int .i64 0) := (blk_cell BK179.out 0).trans rfl
        have hcz27_1 : w19.cell? ⟨gb179, 1, none⟩ = some (.int .i64 0) := (blk_cell BK179.out 1).trans rfl
        have hfz27_0 := blk_frozen BK179.out 0
        have hfz27_1 := blk_frozen BK179.out 1
        have hnb28 := NB180_176.out
        have hnc28 := NB176_180.out
        have hnb29 := NB180_177.out
        have hnc29 := NB177_180.out
        have hcz30_0 : w19.cell? ⟨gb180, 0, none⟩ = some (.int .i64 0) := (blk_cell BK180.out 0).trans rfl
        have hcz30_1 : w19.cell? ⟨gb180, 1, none⟩ = some (.int .i64 0) := (blk_cell BK180.out 1).trans rfl
        have hfz30_0 := blk_frozen BK180.out 0
        have hfz30_1 := blk_frozen BK180.out 1
        try go_wp2_with (first | ((with_reducible refine gate_callee (f := 16) rfl ?_); refine goesL_ (some 38) rfl rfl Try.func16 (by kernel_rfl) rfl #[.agg #[.int .i64 (wrap64 (a0_0)), .int .i64 (wrap64 (a0_1))], .agg #[.int .i64 (wrap64 (a1_0)), .int .i64 (wrap64 (a1_1))]] rfl (by (try simp only [List.map_toArray, List.map_cons, List.map_nil]); first | done | rfl | (simp only [List.length_drop, List.length_take]; rfl)) ?_; (with_reducible refine (gauss_Cross.calls (wrap64 (a0_0)) (wrap64 (a0_1)) (wrap64 (a1_0)) (wrap64 (a1_1)) t181 t182 _ A5.out).mono ?_); rintro e w31 ⟨rfl, hb⟩; refine ⟨_, rfl, ?_⟩; have n0_ := Aside0.mk (blk_below (g := gb176) (o := .cells #[.int .i16 a0_0, .int .i16 a0_1] 40 (0, 0)) (by (with_reducible repeat (first | refine blk_drewN ?_ _ | refine blk_drew ?_ | refine blk_alloc ?_ _)); refine blk_far ?_ NB176_180.out _; (with_reducible repeat (first | refine blk_drewN ?_ _ | refine blk_drew ?_ | refine blk_alloc ?_ _)); refine blk_far ?_ NB176_180.out _; (with_reducible repeat (first | refine blk_drewN ?_ _ | refine blk_drew ?_ | refine blk_alloc ?_ _)); refine blk_far ?_ NB176_179.out _; (with_reducible repeat (first | refine blk_drewN ?_ _ | refine blk_drew ?_ | refine blk_alloc ?_ _)); refine blk_far ?_ NB176_179.out _; (with_reducible repeat (first | refine blk_drewN ?_ _ | refine blk_drew ?_ | refine blk_alloc ?_ _)); exact BK176.out) hb); have n1_ := Aside0.mk (blk_below (g := gb177) (o := .cells #[.int .i16 a1_0, .int .i16 a1_1] 40 (0, 0)) (by (with_reducible repeat (first | refine blk_drewN ?_ _ | refine blk_drew ?_ | refine blk_alloc ?_ _)); refine blk_far ?_ NB177_180.out _; (with_reducible repeat (first | refine blk_drewN ?_ _ | refine blk_drew ?_ | refine blk_alloc ?_ _)); refine blk_far ?_ NB177_180.out _; (with_reducible repeat (first | refine blk_drewN ?_ _ | refine blk_drew ?_ | refine blk_alloc ?_ _)); refine blk_far ?_ NB177_179.out _; (with_reducible repeat (first | refine blk_drewN ?_ _ | refine blk_drew ?_ | refine blk_alloc ?_ _)); refine blk_far ?_ NB177_179.out _; (with_reducible repeat (first | refine blk_drewN ?_ _ | refine blk_drew ?_ | refine blk_alloc ?_ _)); exact BK177.out) hb); have n2_ := Aside0.mk (blk_below (g := gb179) (o := .cells #[.int .i64 (wrap64 (a0_0)), .int .i64 (wrap64 (a0_1))] 23 (0, 0)) (by (with_reducible repeat (first | refine blk_drewN ?_ _ | refine blk_drew ?_ | refine blk_alloc ?_ _)); refine blk_far ?_ NB179_180.out _; (with_reducible repeat (first | refine blk_drewN ?_ _ | refine blk_drew ?_ | refine blk_alloc ?_ _)); refine blk_far ?_ NB179_180.out _; (with_reducible repeat (first | refine blk_drewN ?_ _ | refine blk_drew ?_ | refine blk_alloc ?_ _)); refine blk_put (cs := #[.int .i64 (wrap64 (a0_0)), .int .i64 0]) ?_ 1 _ rfl; (with_reducible repeat (first | refine blk_drewN ?_ _ | refine blk_drew ?_ | refine blk_alloc ?_ _)); refine blk_put (cs := #[.int .i64 0, .int .i64 0]) ?_ 0 _ rfl; (with_reducible repeat (first | refine blk_drewN ?_ _ | refine blk_drew ?_ | refine blk_alloc ?_ _)); exact BK179.out) hb); have n3_ := Aside0.mk (blk_below (g := gb180) (o := .cells #[.int .i64 (wrap64 (a1_0)), .int .i64 (wrap64 (a1_1))] 23 (0, 0)) (by (with_reducible repeat (first | refine blk_drewN ?_ _ | refine blk_drew ?_ | refine blk_alloc ?_ _)); refine blk_put (cs := #[.int .i64 (wrap64 (a1_0)), .int .i64 0]) ?_ 1 _ rfl; (with_reducible repeat (first | refine blk_drewN ?_ _ | refine blk_drew ?_ | refine blk_alloc ?_ _)); refine blk_put (cs := #[.int .i64 0, .int .i64 0]) ?_ 0 _ rfl; (with_reducible repeat (first | refine blk_drewN ?_ _ | refine blk_drew ?_ | refine blk_alloc ?_ _)); refine blk_far ?_ NB180_179.out _; (with_reducible repeat (first | refine blk_drewN ?_ _ | refine blk_drew ?_ | refine blk_alloc ?_ _)); refine blk_far ?_ NB180_179.out _; (with_reducible repeat (first | refine blk_drewN ?_ _ | refine blk_drew ?_ | refine blk_alloc ?_ _)); exact BK180.out) hb); have n4_ := Aside0.mk (below_step (by repeat (first | (with_reducible first | exact HB.out | apply below_alloc | apply pw_below_drewN | apply below_drew1 | refine below_set ?_ GE176.out | refine below_set ?_ GE177.out | refine below_set ?_ GE179.out | refine below_set ?_ GE180.out) | exact HB.out)) hb); clear BK176; clear BK177; clear BK179; clear BK180; clear HB; have BK176 := n0_; have BK177 := n1_; have BK179 := n2_; have BK180 := n3_; have HB := n4_; clear n0_ n1_ n2_ n3_ n4_; (try clear hb); (try clear hb2); (try clear hk); (try clear hi); have hcz32_0 : w31.cell? ⟨gb180, 0, none⟩ = some (.int .i64 (wrap64 (a1_0))) := (blk_cell BK180.out 0).trans rfl; have hcz32_1 : w31.cell? ⟨gb180, 1, none⟩ = some (.int .i64 (wrap64 (a1_1))) := (blk_cell BK180.out 1).trans rfl; have hfz32_0 := blk_frozen BK180.out 0; have hfz32_1 := blk_frozen BK180.out 1; have hcz33_0 : w31.cell? ⟨gb179, 0, none⟩ = some (.int .i64 (wrap64 (a0_0))) := (blk_cell BK179.out 0).trans rfl; have hcz33_1 : w31.cell? ⟨gb179, 1, none⟩ = some (.int .i64 (wrap64 (a0_1))) := (blk_cell BK179.out 1).trans rfl; have hfz33_0 := blk_frozen BK179.out 0; have hfz33_1 := blk_frozen BK179.out 1) | ((with_reducible refine gate_callee (f := 16) rfl ?_); refine goesL_ (some 44) rfl rfl Try.func16 (by kernel_rfl) rfl #[.agg #[.int .i64 (wrap64 (a1_0)), .int .i64 (wrap64 (a1_1))], .agg #[.int .i64 (wrap64 (a0_0)), .int .i64 (wrap64 (a0_1))]] rfl (by (try simp only [List.map_toArray, List.map_cons, List.map_nil]); first | done | rfl | (simp only [List.length_drop, List.length_take]; rfl)) ?_; (with_reducible refine (gauss_Cross.calls (wrap64 (a1_0)) (wrap64 (a1_1)) (wrap64 (a0_0)) (wrap64 (a0_1)) t183 t184 _ A6.out).mono ?_); rintro e w34 ⟨rfl, hb⟩; refine ⟨_, rfl, ?_⟩; have n0_ := Aside0.mk (blk_below (g := gb176) (o := .cells #[.int .i16 a0_0, .int .i16 a0_1] 40 (0, 0)) (by (with_reducible repeat (first | refine blk_drewN ?_ _ | refine blk_drew ?_ | refine blk_alloc ?_ _)); exact BK176.out) hb); have n1_ := Aside0.mk (blk_below (g := gb177) (o := .cells #[.int .i16 a1_0, .int .i16 a1_1] 40 (0, 0)) (by (with_reducible repeat (first | refine blk_drewN ?_ _ | refine blk_drew ?_ | refine blk_alloc ?_ _)); exact BK177.out) hb); have n2_ := Aside0.mk (blk_below (g := gb179) (o := .cells #[.int .i64 (wrap64 (a0_0)), .int .i64 (wrap64 (a0_1))] 23 (0, 0)) (by (with_reducible repeat (first | refine blk_drewN ?_ _ | refine blk_drew ?_ | refine blk_alloc ?_ _)); exact BK179.out) hb); have n3_ := Aside0.mk (blk_below (g := gb180) (o := .cells #[.int .i64 (wrap64 (a1_0)), .int .i64 (wrap64 (a1_1))] 23 (0, 0)) (by (with_reducible repeat (first | refine blk_drewN ?_ _ | refine blk_drew ?_ | refine blk_alloc ?_ _)); exact BK180.out) hb); have n4_ := Aside0.mk (below_step (by repeat (first | (with_reducible first | exact HB.out | apply below_alloc | apply pw_below_drewN | apply below_drew1 | refine below_set ?_ GE176.out | refine below_set ?_ GE177.out | refine below_set ?_ GE179.out | refine below_set ?_ GE180.out) | exact HB.out)) hb); clear BK176; clear BK177; clear BK179; clear BK180; clear HB; have BK176 := n0_; have BK177 := n1_; have BK179 := n2_; have BK180 := n3_; have HB := n4_; clear n0_ n1_ n2_ n3_ n4_; (try clear hb); (try clear hb2); (try clear hk); (try clear hi); have hcz35_0 : w34.cell? ⟨gb179, 0, none⟩ = some (.int .i64 (wrap64 (a0_0))) := (blk_cell BK179.out 0).trans rfl; have hcz35_1 : w34.cell? ⟨gb179, 1, none⟩ = some (.int .i64 (wrap64 (a0_1))) := (blk_cell BK179.out 1).trans rfl; have hfz35_0 := blk_frozen BK179.out 0; have hfz35_1 := blk_frozen BK179.out 1) | ((with_reducible refine gate_callee (f := 16) rfl ?_); refine goesL_ (some 50) rfl rfl Try.func16 (by kernel_rfl) rfl #[.agg #[.int .i64 (wrap64 (a0_0)), .int .i64 (wrap64 (a0_1))], .agg #[.int .i64 (wrap64 (a0_0)), .int .i64 (wrap64 (a0_1))]] rfl (by (try simp only [List.map_toArray, List.map_cons, List.map_nil]); first | done | rfl | (simp only [List.length_drop, List.length_take]; rfl)) ?_; (with_reducible refine (gauss_Cross.calls (wrap64 (a0_0)) (wrap64 (a0_1)) (wrap64 (a0_0)) (wrap64 (a0_1)) t185 t186 _ A7.out).mono ?_); rintro e w36 ⟨rfl, hb⟩; refine ⟨_, rfl, ?_⟩; have n0_ := Aside0.mk (blk_below (g := gb176) (o := .cells #[.int .i16 a0_0, .int .i16 a0_1] 40 (0, 0)) (by (with_reducible repeat (first | refine blk_drewN ?_ _ | refine blk_drew ?_ | refine blk_alloc ?_ _)); exact BK176.out) hb); have n1_ := Aside0.mk (blk_below (g := gb177) (o := .cells #[.int .i16 a1_0, .int .i16 a1_1] 40 (0, 0)) (by (with_reducible repeat (first | refine blk_drewN ?_ _ | refine blk_drew ?_ | refine blk_alloc ?_ _)); exact BK177.out) hb); have n2_ := Aside0.mk (blk_below (g := gb179) (o := .cells #[.int .i64 (wrap64 (a0_0)), .int .i64 (wrap64 (a0_1))] 23 (0, 0)) (by (with_reducible repeat (first | refine blk_drewN ?_ _ | refine blk_drew ?_ | refine blk_alloc ?_ _)); exact BK179.out) hb); have n3_ := Aside0.mk (blk_below (g := gb180) (o := .cells #[.int .i64 (wrap64 (a1_0)), .int .i64 (wrap64 (a1_1))] 23 (0, 0)) (by (with_reducible repeat (first | refine blk_drewN ?_ _ | refine blk_drew ?_ | refine blk_alloc ?_ _)); exact BK180.out) hb); have n4_ := Aside0.mk (below_step (by repeat (first | (with_reducible first | exact HB.out | apply below_alloc | apply pw_below_drewN | apply below_drew1 | refine below_set ?_ GE176.out | refine below_set ?_ GE177.out | refine below_set ?_ GE179.out | refine below_set ?_ GE180.out) | exact HB.out)) hb); clear BK176; clear BK177; clear BK179; clear BK180; clear HB; have BK176 := n0_; have BK177 := n1_; have BK179 := n2_; have BK180 := n3_; have HB := n4_; clear n0_ n1_ n2_ n3_ n4_; (try clear hb); (try clear hb2); (try clear hk); (try clear hi); have hcz37_0 : w36.cell? ⟨gb179, 0, none⟩ = some (.int .i64 (wrap64 (a0_0))) := (blk_cell BK179.out 0).trans rfl; have hcz37_1 : w36.cell? ⟨gb179, 1, none⟩ = some (.int .i64 (wrap64 (a0_1))) := (blk_cell BK179.out 1).trans rfl; have hfz37_0 := blk_frozen BK179.out 0; have hfz37_1 := blk_frozen BK179.out 1; have hcz38_0 : w36.cell? ⟨gb180, 0, none⟩ = some (.int .i64 (wrap64 (a1_0))) := (blk_cell BK180.out 0).trans rfl; have hcz38_1 : w36.cell? ⟨gb180, 1, none⟩ = some (.int .i64 (wrap64 (a1_1))) := (blk_cell BK180.out 1).trans rfl; have hfz38_0 := blk_frozen BK180.out 0; have hfz38_1 := blk_frozen BK180.out 1) | ((with_reducible refine gate_callee (f := 17) rfl ?_); refine goesL_ (some 56) rfl rfl Try.func17 (by kernel_rfl) rfl #[.agg #[.int .i64 (wrap64 (a0_0)), .int .i64 (wrap64 (a0_1))], .agg #[.int .i64 (wrap64 (a1_0)), .int .i64 (wrap64 (a1_1))]] rfl (by (try simp only [List.map_toArray, List.map_cons, List.map_nil]); first | done | rfl | (simp only [List.length_drop, List.length_take]; rfl)) ?_; (with_reducible refine (gauss_Dot.calls (wrap64 (a0_0)) (wrap64 (a0_1)) (wrap64 (a1_0)) (wrap64 (a1_1)) t187 t188 _ A8.out).mono ?_); rintro e w39 ⟨rfl, hb⟩; refine ⟨_, rfl, ?_⟩; have n0_ := Aside0.mk (blk_below (g := gb176) (o := .cells #[.int .i16 a0_0, .int .i16 a0_1] 40 (0, 0)) (by (with_reducible repeat (first | refine blk_drewN ?_ _ | refine blk_drew ?_ | refine blk_alloc ?_ _)); exact BK176.out) hb); have n1_ := Aside0.mk (blk_below (g := gb177) (o := .cells #[.int .i16 a1_0, .int .i16 a1_1] 40 (0, 0)) (by (with_reducible repeat (first | refine blk_drewN ?_ _ | refine blk_drew ?_ | refine blk_alloc ?_ _)); exact BK177.out) hb); have n2_ := Aside0.mk (blk_below (g := gb179) (o := .cells #[.int .i64 (wrap64 (a0_0)), .int .i64 (wrap64 (a0_1))] 23 (0, 0)) (by (with_reducible repeat (first | refine blk_drewN ?_ _ | refine blk_drew ?_ | refine blk_alloc ?_ _)); exact BK179.out) hb); have n3_ := Aside0.mk (blk_below (g := gb180) (o := .cells #[.int .i64 (wrap64 (a1_0)), .int .i64 (wrap64 (a1_1))] 23 (0, 0)) (by (with_reducible repeat (first | refine blk_drewN ?_ _ | refine blk_drew ?_ | refine blk_alloc ?_ _)); exact BK180.out) hb); have n4_ := Aside0.mk (below_step (by repeat (first | (with_reducible first | exact HB.out | apply below_alloc | apply pw_below_drewN | apply below_drew1 | refine below_set ?_ GE176.out | refine below_set ?_ GE177.out | refine below_set ?_ GE179.out | refine below_set ?_ GE180.out) | exact HB.out)) hb); clear BK176; clear BK177; clear BK179; clear BK180; clear HB; have BK176 := n0_; have BK177 := n1_; have BK179 := n2_; have BK180 := n3_; have HB := n4_; clear n0_ n1_ n2_ n3_ n4_; (try clear hb); (try clear hb2); (try clear hk); (try clear hi); have hcz40_0 : w39.cell? ⟨gb179, 0, none⟩ = some (.int .i64 (wrap64 (a0_0))) := (blk_cell BK179.out 0).trans rfl; have hcz40_1 : w39.cell? ⟨gb179, 1, none⟩ = some (.int .i64 (wrap64 (a0_1))) := (blk_cell BK179.out 1).trans rfl; have hfz40_0 := blk_frozen BK179.out 0; have hfz40_1 := blk_frozen BK179.out 1) | ((with_reducible refine gate_callee (f := 17) rfl ?_); refine goesL_ (some 62) rfl rfl Try.func17 (by kernel_rfl) rfl #[.agg #[.int .i64 (wrap64 (a0_0)), .int .i64 (wrap64 (a0_1))], .agg #[.int .i64 (wrap64 (a0_0)), .int .i64 (wrap64 (a0_1))]] rfl (by (try simp only [List.map_toArray, List.map_cons, List.map_nil]); first | done | rfl | (simp only [List.length_drop, List.length_take]; rfl)) ?_; (with_reducible refine (gauss_Dot.calls (wrap64 (a0_0)) (wrap64 (a0_1)) (wrap64 (a0_0)) (wrap64 (a0_1)) t189 t190 _ A9.out).mono ?_); rintro e w41 ⟨rfl, hb⟩; refine ⟨_, rfl, ?_⟩; have n0_ := Aside0.mk (blk_below (g := gb176) (o := .cells #[.int .i16 a0_0, .int .i16 a0_1] 40 (0, 0)) (by (with_reducible repeat (first | refine blk_drewN ?_ _ | refine blk_drew ?_ | refine blk_alloc ?_ _)); exact BK176.out) hb); have n1_ := Aside0.mk (blk_below (g := gb177) (o := .cells #[.int .i16 a1_0, .int .i16 a1_1] 40 (0, 0)) (by (with_reducible repeat (first | refine blk_drewN ?_ _ | refine blk_drew ?_ | refine blk_alloc ?_ _)); exact BK177.out) hb); have n2_ := Aside0.mk (blk_below (g := gb179) (o := .cells #[.int .i64 (wrap64 (a0_0)), .int .i64 (wrap64 (a0_1))] 23 (0, 0)) (by (with_reducible repeat (first | refine blk_drewN ?_ _ | refine blk_drew ?_ | refine blk_alloc ?_ _)); exact BK179.out) hb); have n3_ := Aside0.mk (blk_below (g := gb180) (o := .cells #[.int .i64 (wrap64 (a1_0)), .int .i64 (wrap64 (a1_1))] 23 (0, 0)) (by (with_reducible repeat (first | refine blk_drewN ?_ _ | refine blk_drew ?_ | refine blk_alloc ?_ _)); exact BK180.out) hb); have n4_ := Aside0.mk (below_step (by repeat (first | (with_reducible first | exact HB.out | apply below_alloc | apply pw_below_drewN | apply below_drew1 | refine below_set ?_ GE176.out | refine below_set ?_ GE177.out | refine below_set ?_ GE179.out | refine below_set ?_ GE180.out) | exact HB.out)) hb); clear BK176; clear BK177; clear BK179; clear BK180; clear HB; have BK176 := n0_; have BK177 := n1_; have BK179 := n2_; have BK180 := n3_; have HB := n4_; clear n0_ n1_ n2_ n3_ n4_; (try clear hb); (try clear hb2); (try clear hk); (try clear hi); have hcz42_0 : w41.cell? ⟨gb180, 0, none⟩ = some (.int .i64 (wrap64 (a1_0))) := (blk_cell BK180.out 0).trans rfl; have hcz42_1 : w41.cell? ⟨gb180, 1, none⟩ = some (.int .i64 (wrap64 (a1_1))) := (blk_cell BK180.out 1).trans rfl; have hfz42_0 := blk_frozen BK180.out 0; have hfz42_1 := blk_frozen BK180.out 1) | ((with_reducible refine gate_callee (f := 17) rfl ?_); refine goesL_ (some 68) rfl rfl Try.func17 (by kernel_rfl) rfl #[.agg #[.int .i64 (wrap64 (a1_0)), .int .i64 (wrap64 (a1_1))], .agg #[.int .i64 (wrap64 (a1_0)), .int .i64 (wrap64 (a1_1))]] rfl (by (try simp only [List.map_toArray, List.map_cons, List.map_nil]); first | done | rfl | (simp only [List.length_drop, List.length_take]; rfl)) ?_; (with_reducible refine (gauss_Dot.calls (wrap64 (a1_0)) (wrap64 (a1_1)) (wrap64 (a1_0)) (wrap64 (a1_1)) t191 t192 _ A10.out).mono ?_); rintro e w43 ⟨rfl, hb⟩; refine ⟨_, rfl, ?_⟩; have n0_ := Aside0.mk (blk_below (g := gb176) (o := .cells #[.int .i16 a0_0, .int .i16 a0_1] 40 (0, 0)) (by (with_reducible repeat (first | refine blk_drewN ?_ _ | refine blk_drew ?_ | refine blk_alloc ?_ _)); exact BK176.out) hb); have n1_ := Aside0.mk (blk_below (g := gb177) (o := .cells #[.int .i16 a1_0, .int .i16 a1_1] 40 (0, 0)) (by (with_reducible repeat (first | refine blk_drewN ?_ _ | refine blk_drew ?_ | refine blk_alloc ?_ _)); exact BK177.out) hb); have n2_ := Aside0.mk (blk_below (g := gb179) (o := .cells #[.int .i64 (wrap64 (a0_0)), .int .i64 (wrap64 (a0_1))] 23 (0, 0)) (by (with_reducible repeat (first | refine blk_drewN ?_ _ | refine blk_drew ?_ | refine blk_alloc ?_ _)); exact BK179.out) hb); have n3_ := Aside0.mk (blk_below (g := gb180) (o := .cells #[.int .i64 (wrap64 (a1_0)), .int .i64 (wrap64 (a1_1))] 23 (0, 0)) (by (with_reducible repeat (first | refine blk_drewN ?_ _ | refine blk_drew ?_ | refine blk_alloc ?_ _)); exact BK180.out) hb); have n4_ := Aside0.mk (below_step (by repeat (first | (with_reducible first | exact HB.out | apply below_alloc | apply pw_below_drewN | apply below_drew1 | refine below_set ?_ GE176.out | refine below_set ?_ GE177.out | refine below_set ?_ GE179.out | refine below_set ?_ GE180.out) | exact HB.out)) hb); clear BK176; clear BK177; clear BK179; clear BK180; clear HB; have BK176 := n0_; have BK177 := n1_; have BK179 := n2_; have BK180 := n3_; have HB := n4_; clear n0_ n1_ n2_ n3_ n4_; (try clear hb); (try clear hb2); (try clear hk); (try clear hi)))
        go_ret
        exact ⟨by first | rfl | (simp [errW_none, errW_some] <;> rfl) | (simp [*, errW_none, errW_some] <;> rfl), by repeat (first | (with_reducible first | exact HB.out | apply below_alloc | apply pw_below_drewN | apply below_drew1 | refine below_set ?_ GE176.out | refine below_set ?_ GE177.out | refine below_set ?_ GE179.out | refine below_set ?_ GE180.out) | exact HB.out)⟩
      · rw [if_neg c12] at H
        exact absurd H (by simp)
    · rw [if_neg c11] at H
      exact absurd H (by simp)
  · replace c4 := Bool.eq_false_iff.mpr c4
    subst c4
    have H1 : (none) = some r := by rw [if_neg (show ¬ (false = true) by decide)] at H; exact H
    clear H
    have H := H1
    clear H1
    exact absurd H (by simp)

end Go.Proofs.Ytgibokbkobcnaaa.G
