/- What Go functions answer, as Lean functions, and that they do: written by wip/xprint.py of this session (the kit's printer with turns, texts by hand among them). -/
import Derived.Test.YtgibokbkobcnaaaG0
import Derived.Test.YtgibokbkobcnaaaGe0
import Derived.Test.YtgibokbkobcnaaaGd0
import Derived.Test.YtgibokbkobcnaaaGf29
import Derived.Test.YtgibokbkobcnaaaGf14
import Derived.Test.YtgibokbkobcnaaaGf15
import Derived.Test.YtgibokbkobcnaaaGf24
import Derived.Test.YtgibokbkobcnaaaGf28
import Derived.Test.YtgibokbkobcnaaaGf30
import Derived.Test.YtgibokbkobcnaaaGf31
namespace Go.Proofs.Ytgibokbkobcnaaa.G
open Go.RowKit Go.Proofs.YtgibokbkobcnaaaW.PrintWords Go.Proofs.YtgibokbkobcnaaaW.PrintLast Go.Proofs.YtgibokbkobcnaaaW.PrintMore
attribute [local go_sem] max2_int min2_int max_two min_two max_three min_three max_four min_four   -- for this text's walks alone
set_option linter.unusedVariables false
set_option linter.unusedSimpArgs false

attribute [local go_sem high] eqA23
/-! ### calamuslaw10_GaussTurns: function 7 -/
def calamuslaw10_GaussTurns.T6 : Bool × List (List Nat × List Nat) := (true, [([], []), ([0], [0]), ([1], [1]), ([2], [2]), ([2], [2]), ([4, 2], [2, 4]), ([2], [2]), ([5, 6, 2, 2], [2, 5, 6]), ([3, 7, 2], [2, 3, 7]), ([2, 8], [2, 8])])
def calamuslaw10_GaussTurns.B6 : List Nat := [0, 1, 3, 7, 7, 23, 7, 119, 255, 511]
theorem calamuslaw10_GaussTurns.tab6 : rtab .any (opsOf Try.f7 6) = calamuslaw10_GaussTurns.T6 := by kernel_rfl
theorem calamuslaw10_GaussTurns.bits6 : waitsOk calamuslaw10_GaussTurns.T6.2 calamuslaw10_GaussTurns.B6 = true := by kernel_rfl
set_option maxHeartbeats 8000000 in
set_option maxRecDepth 100000 in
theorem calamuslaw10_GaussTurns.calls (k : Nat) (a0_0 : Int) (a0_1 : Int) (a0_2 : Int) (a0_3 : Int) (a0_4 : Int) (a0_5 : Int) (a1 : Int) (r : Bool) (w : World) (h : calamuslaw10_GaussTurns.f k a0_0 a0_1 a0_2 a0_3 a0_4 a0_5 a1 = some r) :
    Calls Try.prog 7 #[.agg #[.int .i64 a0_0, .int .i64 a0_1, .int .i64 a0_2, .int .i64 a0_3, .int .i64 a0_4, .int .i64 a0_5], .int .i64 a1] w fun e w' => e = .returned (.bool r) ∧ Below w.heap.size w w' := by
  have hsl48 : ∀ (b o : Nat) (W : World), (Instr.sliceAt 48 (.pointer (some ⟨b, o, none⟩)) none none none).run Try.prog W = .ok (.slice (some ⟨b, o, none⟩) 3 3) W := fun _ _ _ => rfl
  have hix48_0 : ∀ (b o : Nat) (W : World), (Instr.indexAt 48 (.pointer (some ⟨b, o, none⟩)) (.int .i64 0)).run Try.prog W = .ok (.pointer (some ⟨b, o, none⟩)) W := fun _ _ _ => rfl
  have hix48_1 : ∀ (b o : Nat) (W : World), (Instr.indexAt 48 (.pointer (some ⟨b, o, none⟩)) (.int .i64 1)).run Try.prog W = .ok (.pointer (some ⟨b, o + 2, none⟩)) W := fun _ _ _ => rfl
  have hix48_2 : ∀ (b o : Nat) (W : World), (Instr.indexAt 48 (.pointer (some ⟨b, o, none⟩)) (.int .i64 2)).run Try.prog W = .ok (.pointer (some ⟨b, o + 4, none⟩)) W := fun _ _ _ => rfl
  have hu48 := Try.underlying48
  have hu23 := Try.underlying23
  have HB := Aside0.mk (Below.refl w.heap.size w)
  have H : ((calamuslaw10_alive.f k).bind fun t174 => (if t174 = true then ((gauss_Turn.f a0_0 a0_1 a0_2 a0_3 a0_4 a0_5).bind fun bt175 => ((gauss_Quarter.f a0_0 a0_1 a1).bind fun bt177 => ((calamusref10_Good.f a0_0 a0_1).bind fun t181 => (if t181 = true then (if bt177.2.2 = 0 then ((calamusref10_Quarter.f k a0_0 a0_1 a1).bind fun bt182 => (if (!(bt177.1 == bt182.1) || (!(bt177.2.1 == bt182.2))) = true then (none) else (calamuslaw10_GaussTurns.j0 k bt175.1 bt175.2 a0_0 a0_1 a0_2 a0_3 a0_4 a0_5))) else (none)) else (if bt177.2.2 = 6 then (if (!(bt177.1 == 0) || (!(bt177.2.1 == 0))) = true then (none) else (calamuslaw10_GaussTurns.j0 k bt175.1 bt175.2 a0_0 a0_1 a0_2 a0_3 a0_4 a0_5)) else (none)))))) else (none))) = some r := h
  clear h
  replace H := Option.bind_eq_some_iff.mp H
  obtain ⟨t174, A30, H⟩ := H
  replace H : (if t174 = true then ((gauss_Turn.f a0_0 a0_1 a0_2 a0_3 a0_4 a0_5).bind fun bt175 => ((gauss_Quarter.f a0_0 a0_1 a1).bind fun bt177 => ((calamusref10_Good.f a0_0 a0_1).bind fun t181 => (if t181 = true then (if bt177.2.2 = 0 then ((calamusref10_Quarter.f k a0_0 a0_1 a1).bind fun bt182 => (if (!(bt177.1 == bt182.1) || (!(bt177.2.1 == bt182.2))) = true then (none) else (calamuslaw10_GaussTurns.j0 k bt175.1 bt175.2 a0_0 a0_1 a0_2 a0_3 a0_4 a0_5))) else (none)) else (if bt177.2.2 = 6 then (if (!(bt177.1 == 0) || (!(bt177.2.1 == 0))) = true then (none) else (calamuslaw10_GaussTurns.j0 k bt175.1 bt175.2 a0_0 a0_1 a0_2 a0_3 a0_4 a0_5)) else (none)))))) else (none)) = some r := H
  have A3 := Aside0.mk A30
  clear A30
  by_cases c4 : t174 = true
  · subst c4
    have H1 : ((gauss_Turn.f a0_0 a0_1 a0_2 a0_3 a0_4 a0_5).bind fun bt175 => ((gauss_Quarter.f a0_0 a0_1 a1).bind fun bt177 => ((calamusref10_Good.f a0_0 a0_1).bind fun t181 => (if t181 = true then (if bt177.2.2 = 0 then ((calamusref10_Quarter.f k a0_0 a0_1 a1).bind fun bt182 => (if (!(bt177.1 == bt182.1) || (!(bt177.2.1 == bt182.2))) = true then (none) else (calamuslaw10_GaussTurns.j0 k bt175.1 bt175.2 a0_0 a0_1 a0_2 a0_3 a0_4 a0_5))) else (none)) else (if bt177.2.2 = 6 then (if (!(bt177.1 == 0) || (!(bt177.2.1 == 0))) = true then (none) else (calamuslaw10_GaussTurns.j0 k bt175.1 bt175.2 a0_0 a0_1 a0_2 a0_3 a0_4 a0_5)) else (none)))))) = some r := by rw [if_pos rfl] at H; exact H
    clear H
    have H := H1
    clear H1
    replace H := Option.bind_eq_some_iff.mp H
    obtain ⟨⟨t175, t176⟩, A50, H⟩ := H
    replace H : ((gauss_Quarter.f a0_0 a0_1 a1).bind fun bt177 => ((calamusref10_Good.f a0_0 a0_1).bind fun t181 => (if t181 = true then (if bt177.2.2 = 0 then ((calamusref10_Quarter.f k a0_0 a0_1 a1).bind fun bt182 => (if (!(bt177.1 == bt182.1) || (!(bt177.2.1 == bt182.2))) = true then (none) else (calamuslaw10_GaussTurns.j0 k t175 t176 a0_0 a0_1 a0_2 a0_3 a0_4 a0_5))) else (none)) else (if bt177.2.2 = 6 then (if (!(bt177.1 == 0) || (!(bt177.2.1 == 0))) = true then (none) else (calamuslaw10_GaussTurns.j0 k t175 t176 a0_0 a0_1 a0_2 a0_3 a0_4 a0_5)) else (none))))) = some r := H
    have A5 := Aside0.mk A50
    clear A50
    replace H := Option.bind_eq_some_iff.mp H
    obtain ⟨⟨t177, t178, t179⟩, A60, H⟩ := H
    replace H : ((calamusref10_Good.f a0_0 a0_1).bind fun t181 => (if t181 = true then (if t179 = 0 then ((calamusref10_Quarter.f k a0_0 a0_1 a1).bind fun bt182 => (if (!(t177 == bt182.1) || (!(t178 == bt182.2))) = true then (none) else (calamuslaw10_GaussTurns.j0 k t175 t176 a0_0 a0_1 a0_2 a0_3 a0_4 a0_5))) else (none)) else (if t179 = 6 then (if (!(t177 == 0) || (!(t178 == 0))) = true then (none) else (calamuslaw10_GaussTurns.j0 k t175 t176 a0_0 a0_1 a0_2 a0_3 a0_4 a0_5)) else (none)))) = some r := H
    have A6 := Aside0.mk A60
    clear A60
    replace H := Option.bind_eq_some_iff.mp H
    obtain ⟨t181, A70, H⟩ := H
    replace H : (if t181 = true then (if t179 = 0 then ((calamusref10_Quarter.f k a0_0 a0_1 a1).bind fun bt182 => (if (!(t177 == bt182.1) || (!(t178 == bt182.2))) = true then (none) else (calamuslaw10_GaussTurns.j0 k t175 t176 a0_0 a0_1 a0_2 a0_3 a0_4 a0_5))) else (none)) else (if t179 = 6 then (if (!(t177 == 0) || (!(t178 == 0))) = true then (none) else (calamuslaw10_GaussTurns.j0 k t175 t176 a0_0 a0_1 a0_2 a0_3 a0_4 a0_5)) else (none))) = some r := H
    have A7 := Aside0.mk A70
    clear A70
    have HC8 := Aside0.mk H
    clear H
    go_enter Try.func7, Try.ntmps7
    go_upto_if 30 with (first | ((with_reducible refine gate_dst (N := 2) rfl ?_); refine box_event ?hg (N := 2) ?hd (cs := #[.int .i64 a0_0, .int .i64 a0_1, .int .i64 a0_2, .int .i64 a0_3, .int .i64 a0_4, .int .i64 a0_5]) (t := 48) ?hr ?_; (case hd => rfl); (case hg => rfl); (case hr => first | (go_simp; done) | (go_simp; rfl)); intro gb173 hg w9 hbox hb; have n0_ := Aside0.mk (below_step (by repeat (first | (with_reducible first | exact HB.out | apply below_alloc | apply pw_below_drewN | apply below_drew1) | exact HB.out)) hb); have n1_ := Aside0.mk (hbox); have n2_ := Aside0.mk ((by rw [hg]; exact (below_size (by repeat (first | (with_reducible first | exact HB.out | apply below_alloc | apply pw_below_drewN | apply below_drew1) | exact HB.out))) : w.heap.size ≤ gb173)); have n3_ := Aside0.mk ((by rw [hg]; exact (below_size (by repeat (first | (with_reducible first | exact HB.out | apply below_alloc | apply pw_below_drewN | apply below_drew1) | exact HB.out))) : w.heap.size ≤ gb173)); clear HB; have HB := n0_; have BK173 := n1_; have GW173 := n2_; have GE173 := n3_; clear n0_ n1_ n2_ n3_; clear hb hbox hg) | ((with_reducible refine gate_callee (f := 14) rfl ?_); refine goesL_ (some 9) rfl rfl Try.func14 (by kernel_rfl) rfl #[] rfl (by (try simp only [List.map_toArray, List.map_cons, List.map_nil]); first | done | rfl | (simp only [List.length_drop, List.length_take]; rfl)) ?_; (with_reducible refine (calamuslaw10_alive.calls k  true _ A3.out).mono ?_); rintro e w10 ⟨rfl, hb⟩; refine ⟨_, rfl, ?_⟩; have n0_ := Aside0.mk (blk_below (g := gb173) (o := .cells #[.int .i64 a0_0, .int .i64 a0_1, .int .i64 a0_2, .int .i64 a0_3, .int .i64 a0_4, .int .i64 a0_5] 48 (0, 0)) (by (with_reducible repeat (first | refine blk_drewN ?_ _ | refine blk_drew ?_ | refine blk_alloc ?_ _)); exact BK173.out) hb); have n1_ := Aside0.mk (below_step (by repeat (first | (with_reducible first | exact HB.out | apply below_alloc | apply pw_below_drewN | apply below_drew1 | refine below_set ?_ GE173.out) | exact HB.out)) hb); clear BK173; clear HB; have BK173 := n0_; have HB := n1_; clear n0_ n1_; (try clear hb); (try clear hb2); (try clear hk); (try clear hi); have hcz11_0 : w10.cell? ⟨gb173, 0, none⟩ = some (.int .i64 a0_0) := (blk_cell BK173.out 0).trans rfl; have hcz11_1 : w10.cell? ⟨gb173, 1, none⟩ = some (.int .i64 a0_1) := (blk_cell BK173.out 1).trans rfl; have hcz11_2 : w10.cell? ⟨gb173, 2, none⟩ = some (.int .i64 a0_2) := (blk_cell BK173.out 2).trans rfl; have hcz11_3 : w10.cell? ⟨gb173, 3, none⟩ = some (.int .i64 a0_3) := (blk_cell BK173.out 3).trans rfl; have hcz11_4 : w10.cell? ⟨gb173, 4, none⟩ = some (.int .i64 a0_4) := (blk_cell BK173.out 4).trans rfl; have hcz11_5 : w10.cell? ⟨gb173, 5, none⟩ = some (.int .i64 a0_5) := (blk_cell BK173.out 5).trans rfl; have hfz11_0 := blk_frozen BK173.out 0; have hfz11_1 := blk_frozen BK173.out 1; have hfz11_2 := blk_frozen BK173.out 2; have hfz11_3 := blk_frozen BK173.out 3; have hfz11_4 := blk_frozen BK173.out 4; have hfz11_5 := blk_frozen BK173.out 5) | ((with_reducible refine gate_callee (f := 28) rfl ?_); refine goesL_ (some 18) rfl rfl Try.func28 (by kernel_rfl) rfl #[.agg #[.int .i64 a0_0, .int .i64 a0_1], .agg #[.int .i64 a0_2, .int .i64 a0_3], .agg #[.int .i64 a0_4, .int .i64 a0_5]] rfl (by (try simp only [List.map_toArray, List.map_cons, List.map_nil]); first | done | rfl | (simp only [List.length_drop, List.length_take]; rfl)) ?_; (with_reducible refine (gauss_Turn.calls a0_0 a0_1 a0_2 a0_3 a0_4 a0_5 t175 t176 _ A5.out).mono ?_); rintro e w12 ⟨rfl, hb⟩; refine ⟨_, rfl, ?_⟩; have n0_ := Aside0.mk (blk_below (g := gb173) (o := .cells #[.int .i64 a0_0, .int .i64 a0_1, .int .i64 a0_2, .int .i64 a0_3, .int .i64 a0_4, .int .i64 a0_5] 48 (0, 0)) (by (with_reducible repeat (first | refine blk_drewN ?_ _ | refine blk_drew ?_ | refine blk_alloc ?_ _)); exact BK173.out) hb); have n1_ := Aside0.mk (below_step (by repeat (first | (with_reducible first | exact HB.out | apply below_alloc | apply pw_below_drewN | apply below_drew1 | refine below_set ?_ GE173.out) | exact HB.out)) hb); clear BK173; clear HB; have BK173 := n0_; have HB := n1_; clear n0_ n1_; (try clear hb); (try clear hb2); (try clear hk); (try clear hi); have hcz13_0 : w12.cell? ⟨gb173, 0, none⟩ = some (.int .i64 a0_0) := (blk_cell BK173.out 0).trans rfl; have hcz13_1 : w12.cell? ⟨gb173, 1, none⟩ = some (.int .i64 a0_1) := (blk_cell BK173.out 1).trans rfl; have hcz13_2 : w12.cell? ⟨gb173, 2, none⟩ = some (.int .i64 a0_2) := (blk_cell BK173.out 2).trans rfl; have hcz13_3 : w12.cell? ⟨gb173, 3, none⟩ = some (.int .i64 a0_3) := (blk_cell BK173.out 3).trans rfl; have hcz13_4 : w12.cell? ⟨gb173, 4, none⟩ = some (.int .i64 a0_4) := (blk_cell BK173.out 4).trans rfl; have hcz13_5 : w12.cell? ⟨gb173, 5, none⟩ = some (.int .i64 a0_5) := (blk_cell BK173.out 5).trans rfl; have hfz13_0 := blk_frozen BK173.out 0; have hfz13_1 := blk_frozen BK173.out 1; have hfz13_2 := blk_frozen BK173.out 2; have hfz13_3 := blk_frozen BK173.out 3; have hfz13_4 := blk_frozen BK173.out 4; have hfz13_5 := blk_frozen BK173.out 5) | ((with_reducible refine gate_callee (f := 29) rfl ?_); refine goesL_ (some 25) rfl rfl Try.func29 (by kernel_rfl) rfl #[.agg #[.int .i64 a0_0, .int .i64 a0_1], .int .i64 a1] rfl (by (try simp only [List.map_toArray, List.map_cons, List.map_nil]); first | done | rfl | (simp only [List.length_drop, List.length_take]; rfl)) ?_; (with_reducible refine (gauss_Quarter.calls a0_0 a0_1 a1 t177 t178 t179 _ A6.out).mono ?_); rintro e w14 ⟨rfl, hb⟩; refine ⟨_, rfl, ?_⟩; have n0_ := Aside0.mk (blk_below (g := gb173) (o := .cells #[.int .i64 a0_0, .int .i64 a0_1, .int .i64 a0_2, .int .i64 a0_3, .int .i64 a0_4, .int .i64 a0_5] 48 (0, 0)) (by (with_reducible repeat (first | refine blk_drewN ?_ _ | refine blk_drew ?_ | refine blk_alloc ?_ _)); exact BK173.out) hb); have n1_ := Aside0.mk (below_step (by repeat (first | (with_reducible first | exact HB.out | apply below_alloc | apply pw_below_drewN | apply below_drew1 | refine below_set ?_ GE173.out) | exact HB.out)) hb); clear BK173; clear HB; have BK173 := n0_; have HB := n1_; clear n0_ n1_; (try clear hb); (try clear hb2); (try clear hk); (try clear hi)) | ((with_reducible refine gate_dst (N := 7) rfl ?_); refine box_event ?hg (N := 7) ?hd (cs := #[.int .i64 0, .int .i64 0]) (t := 23) ?hr ?_; (case hd => rfl); (case hg => rfl); (case hr => first | (go_simp; done) | (go_simp; rfl)); intro gb180 hg w15 hbox hb; have n0_ := Aside0.mk (blk_below (g := gb173) (o := .cells #[.int .i64 a0_0, .int .i64 a0_1, .int .i64 a0_2, .int .i64 a0_3, .int .i64 a0_4, .int .i64 a0_5] 48 (0, 0)) (by (with_reducible repeat (first | refine blk_drewN ?_ _ | refine blk_drew ?_ | refine blk_alloc ?_ _)); exact BK173.out) hb); have n1_ := Aside0.mk (below_step (by repeat (first | (with_reducible first | exact HB.out | apply below_alloc | apply pw_below_drewN | apply below_drew1 | refine below_set ?_ GE173.out) | exact HB.out)) hb); have n2_ := Aside0.mk (hbox); have n3_ := Aside0.mk ((by rw [hg]; exact (below_size (by repeat (first | (with_reducible first | exact HB.out | apply below_alloc | apply pw_below_drewN | apply below_drew1 | refine below_set ?_ GE173.out) | exact HB.out))) : w.heap.size ≤ gb180)); have n4_ := Aside0.mk ((by rw [hg]; exact (below_size (by repeat (first | (with_reducible first | exact HB.out | apply below_alloc | apply pw_below_drewN | apply below_drew1 | refine below_set ?_ GE173.out) | exact HB.out))) : w.heap.size ≤ gb180)); have n5_ := Aside0.mk ((by rw [hg]; exact Nat.ne_of_lt (blk_lt (g := gb173) (o := .cells #[.int .i64 a0_0, .int .i64 a0_1, .int .i64 a0_2, .int .i64 a0_3, .int .i64 a0_4, .int .i64 a0_5] 48 (0, 0)) (by (with_reducible repeat (first | refine blk_drewN ?_ _ | refine blk_drew ?_ | refine blk_alloc ?_ _)); exact BK173.out)) : gb173 ≠ gb180)); have n6_ := Aside0.mk ((by rw [hg]; exact Nat.ne_of_gt (blk_lt (g := gb173) (o := .cells #[.int .i64 a0_0, .int .i64 a0_1, .int .i64 a0_2, .int .i64 a0_3, .int .i64 a0_4, .int .i64 a0_5] 48 (0, 0)) (by (with_reducible repeat (first | refine blk_drewN ?_ _ | refine blk_drew ?_ | refine blk_alloc ?_ _)); exact BK173.out)) : gb180 ≠ gb173)); clear BK173; clear HB; have BK173 := n0_; have HB := n1_; have BK180 := n2_; have GW180 := n3_; have GE180 := n4_; have NB173_180 := n5_; have NB180_173 := n6_; clear n0_ n1_ n2_ n3_ n4_ n5_ n6_; clear hb hbox hg; have hnb16 := NB180_173.out; have hnc16 := NB173_180.out; have hcz17_0 : w15.cell? ⟨gb180, 0, none⟩ = some (.int .i64 0) := (blk_cell BK180.out 0).trans rfl; have hcz17_1 : w15.cell? ⟨gb180, 1, none⟩ = some (.int .i64 0) := (blk_cell BK180.out 1).trans rfl; have hfz17_0 := blk_frozen BK180.out 0; have hfz17_1 := blk_frozen BK180.out 1; have hcz18_0 : w15.cell? ⟨gb173, 0, none⟩ = some (.int .i64 a0_0) := (blk_cell BK173.out 0).trans rfl; have hcz18_1 : w15.cell? ⟨gb173, 1, none⟩ = some (.int .i64 a0_1) := (blk_cell BK173.out 1).trans rfl; have hcz18_2 : w15.cell? ⟨gb173, 2, none⟩ = some (.int .i64 a0_2) := (blk_cell BK173.out 2).trans rfl; have hcz18_3 : w15.cell? ⟨gb173, 3, none⟩ = some (.int .i64 a0_3) := (blk_cell BK173.out 3).trans rfl; have hcz18_4 : w15.cell? ⟨gb173, 4, none⟩ = some (.int .i64 a0_4) := (blk_cell BK173.out 4).trans rfl; have hcz18_5 : w15.cell? ⟨gb173, 5, none⟩ = some (.int .i64 a0_5) := (blk_cell BK173.out 5).trans rfl; have hfz18_0 := blk_frozen BK173.out 0; have hfz18_1 := blk_frozen BK173.out 1; have hfz18_2 := blk_frozen BK173.out 2; have hfz18_3 := blk_frozen BK173.out 3; have hfz18_4 := blk_frozen BK173.out 4; have hfz18_5 := blk_frozen BK173.out 5) | ((with_reducible refine gate_callee (f := 15) rfl ?_); refine goesL_ (some 30) rfl rfl Try.func15 (by kernel_rfl) rfl #[.agg #[.int .i64 a0_0, .int .i64 a0_1]] rfl (by (try simp only [List.map_toArray, List.map_cons, List.map_nil]); first | done | rfl | (simp only [List.length_drop, List.length_take]; rfl)) ?_; (with_reducible refine (calamusref10_Good.calls a0_0 a0_1 t181 _ A7.out).mono ?_); rintro e w19 ⟨rfl, hb⟩; refine ⟨_, rfl, ?_⟩; have n0_ := Aside0.mk (blk_below (g := gb173) (o := .cells #[.int .i64 a0_0, .int .i64 a0_1, .int .i64 a0_2, .int .i64 a0_3, .int .i64 a0_4, .int .i64 a0_5] 48 (0, 0)) (by (with_reducible repeat (first | refine blk_drewN ?_ _ | refine blk_drew ?_ | refine blk_alloc ?_ _)); refine blk_far ?_ NB173_180.out _; (with_reducible repeat (first | refine blk_drewN ?_ _ | refine blk_drew ?_ | refine blk_alloc ?_ _)); refine blk_far ?_ NB173_180.out _; (with_reducible repeat (first | refine blk_drewN ?_ _ | refine blk_drew ?_ | refine blk_alloc ?_ _)); exact BK173.out) hb); have n1_ := Aside0.mk (blk_below (g := gb180) (o := .cells #[.int .i64 t177, .int .i64 t178] 23 (0, 0)) (by (with_reducible repeat (first | refine blk_drewN ?_ _ | refine blk_drew ?_ | refine blk_alloc ?_ _)); refine blk_put (cs := #[.int .i64 t177, .int .i64 0]) ?_ 1 _ rfl; (with_reducible repeat (first | refine blk_drewN ?_ _ | refine blk_drew ?_ | refine blk_alloc ?_ _)); refine blk_put (cs := #[.int .i64 0, .int .i64 0]) ?_ 0 _ rfl; (with_reducible repeat (first | refine blk_drewN ?_ _ | refine blk_drew ?_ | refine blk_alloc ?_ _)); exact BK180.out) hb); have n2_ := Aside0.mk (below_step (by repeat (first | (with_reducible first | exact HB.out | apply below_alloc | apply pw_below_drewN | apply below_drew1 | refine below_set ?_ GE173.out | refine below_set ?_ GE180.out) | exact HB.out)) hb); clear BK173; clear BK180; clear HB; have BK173 := n0_; have BK180 := n1_; have HB := n2_; clear n0_ n1_ n2_; (try clear hb); (try clear hb2); (try clear hk); (try clear hi)))
    (try simp only [Act.put, List.setIfInBounds_toArray, List.set_cons_zero, List.set_cons_succ])
    go_cut [] (fun wc => ∃ (kq : Nat), Aside0 (calamuslaw10_GaussTurns.j0 kq t175 t176 a0_0 a0_1 a0_2 a0_3 a0_4 a0_5 = some r) ∧ Aside0 (kq ≤ k) ∧ Aside0 (wc.heap[gb173]? = some (.cells #[.int .i64 a0_0, .int .i64 a0_1, .int .i64 a0_2, .int .i64 a0_3, .int .i64 a0_4, .int .i64 a0_5] 48 (0, 0))) ∧ Aside0 (wc.heap[gb180]? = some (.cells #[.int .i64 t177, .int .i64 t178] 23 (0, 0))) ∧ Aside0 (Below w.heap.size w wc))
    case first =>
      have H := HC8.out
      clear HC8
      by_cases c20 : t181 = true
      · subst c20
        have H1 : (if t179 = 0 then ((calamusref10_Quarter.f k a0_0 a0_1 a1).bind fun bt182 => (if (!(t177 == bt182.1) || (!(t178 == bt182.2))) = true then (none) else (calamuslaw10_GaussTurns.j0 k t175 t176 a0_0 a0_1 a0_2 a0_3 a0_4 a0_5))) else (none)) = some r := by rw [if_pos rfl] at H; exact H
        clear H
        have H := H1
        clear H1
        by_cases c21 : t179 = 0
        · rw [if_pos c21] at H
          have c21b0 : (t179 == 0) = true := beq_iff_eq.mpr c21
          have c21b1 : (t179 != 0) = false := bne_eq_false_iff_eq.mpr c21
          clear c21
          (first | rw [c21b0] | (simp only [i64_w, i32_w]; rw [c21b0]) | skip)
          replace H := Option.bind_eq_some_iff.mp H
          obtain ⟨⟨t182, t183⟩, A220, H⟩ := H
          replace H : (if (!(t177 == t182) || (!(t178 == t183))) = true then (none) else (calamuslaw10_GaussTurns.j0 k t175 t176 a0_0 a0_1 a0_2 a0_3 a0_4 a0_5)) = some r := H
          have A22 := Aside0.mk A220
          clear A220
          by_cases c23 : (!(t177 == t182) || (!(t178 == t183))) = true
          · rw [if_pos c23] at H
            exact absurd H (by simp)
          · rw [if_neg c23] at H
            have c23b0 : (!(t177 == t182) || (!(t178 == t183))) = false := by simpa using c23
            clear c23
            have H' := Aside0.mk H
            clear H
            try go_wp2
            have n0_ := Aside0.mk (blk_drew BK173.out)
            have n1_ := Aside0.mk (blk_drew BK180.out)
            have n2_ := Aside0.mk (below_drew1 HB.out)
            clear BK173
            clear BK180
            clear HB
            have BK173 := n0_
            have BK180 := n1_
            have HB := n2_
            clear n0_ n1_ n2_
            refine start_ (n := 10) (S := fun w' => w'.cell? ⟨gb180, 0, none⟩ = some (.int .i64 t177) ∧ w'.cell? ⟨gb180, 1, none⟩ = some (.int .i64 t178) ∧ w'.cell? ⟨gb173, 0, none⟩ = some (.int .i64 a0_0) ∧ w'.cell? ⟨gb173, 1, none⟩ = some (.int .i64 a0_1) ∧ w'.cell? ⟨gb173, 2, none⟩ = some (.int .i64 a0_2) ∧ w'.cell? ⟨gb173, 3, none⟩ = some (.int .i64 a0_3) ∧ w'.cell? ⟨gb173, 4, none⟩ = some (.int .i64 a0_4) ∧ w'.cell? ⟨gb173, 5, none⟩ = some (.int .i64 a0_5)) (ds := []) #[false, false, false, false, false, false, false, false, false, false] (by kernel_rfl) rfl rfl ⟨(blk_cell BK180.out 0).trans rfl, (blk_cell BK180.out 1).trans rfl, (blk_cell BK173.out 0).trans rfl, (blk_cell BK173.out 1).trans rfl, (blk_cell BK173.out 2).trans rfl, (blk_cell BK173.out 3).trans rfl, (blk_cell BK173.out 4).trans rfl, (blk_cell BK173.out 5).trans rfl⟩ (fun hHeld => ?_); refine with_tabW calamuslaw10_GaussTurns.tab6 calamuslaw10_GaussTurns.bits6 (fun HT_ HW_ => ?_)
            generalize w19.drew = w24 at BK173 BK180 HB hHeld ⊢
            refine pure_ (i := 0) (N := some 31) (v := ?_) (a' := ?_) #[true, false, false, false, false, false, false, false, false, false] rfl rfl (any_of HT_.out (by kernel_rfl)) (fun _ _ _ h => h) (Or.inl ⟨by rfl, ?_⟩) ?_ ?_
            rotate_left
            · intro w'
              go_simp
              with_reducible rfl
            rotate_left
            · simp only [Act.put, List.setIfInBounds_toArray, List.set_cons_zero, List.set_cons_succ, i64_w, i32_w]
              rfl
            refine pure_ (i := 1) (N := some 32) (v := ?_) (a' := ?_) #[true, true, false, false, false, false, false, false, false, false] rfl rfl (any_of HT_.out (by kernel_rfl)) (fun _ _ _ h => h) (Or.inl ⟨by rfl, ?_⟩) ?_ ?_
            rotate_left
            · intro w'
              go_simp
              with_reducible rfl
            rotate_left
            · simp only [Act.put, List.setIfInBounds_toArray, List.set_cons_zero, List.set_cons_succ, i64_w, i32_w]
              rfl
            refine pure_ (i := 2) (N := some 33) (v := ?_) (a' := ?_) #[true, true, true, false, false, false, false, false, false, false] rfl rfl (any_of HT_.out (by kernel_rfl)) (fun _ _ _ h => h) (Or.inl ⟨by rfl, ?_⟩) ?_ ?_
            rotate_left
            · intro w'
              go_simp
              with_reducible rfl
            rotate_left
            · simp only [Act.put, List.setIfInBounds_toArray, List.set_cons_zero, List.set_cons_succ, i64_w, i32_w]
              rfl
            refine pure_ (i := 4) (N := some 35) (v := ?_) (a' := ?_) #[true, true, true, false, true, false, false, false, false, false] rfl rfl (any_of HT_.out (by kernel_rfl)) (fun _ _ _ h => h) (Or.inl ⟨by rfl, ?_⟩) ?_ ?_
            rotate_left
            · intro w'
              go_simp
              with_reducible rfl
            rotate_left
            · simp only [Act.put, List.setIfInBounds_toArray, List.set_cons_zero, List.set_cons_succ, i64_w, i32_w]
              rfl
            refine pure_ (i := 6) (N := some 37) (v := ?_) (a' := ?_) #[true, true, true, false, true, false, true, false, false, false] rfl rfl (any_of HT_.out (by kernel_rfl)) (fun _ _ _ h => h) (Or.inl ⟨by rfl, ?_⟩) ?_ ?_
            rotate_left
            · intro w'
              go_simp
              with_reducible rfl
            rotate_left
            · simp only [Act.put, List.setIfInBounds_toArray, List.set_cons_zero, List.set_cons_succ, i64_w, i32_w]
              rfl
            refine take_ (i := 3) (N := some 34) (v := ?_) (a' := ?_) #[true, true, true, true, true, false, true, false, false, false] rfl rfl (take_ofW HT_.out HW_.out (by kernel_rfl)) (fun _ _ _ h => h) (Or.inl ⟨by rfl, ?_⟩) hHeld ?_ ?_
            rotate_left
            · rintro w' ⟨s0, s1, s2, s3, s4, s5, s6, s7⟩
              go_simp
              with_reducible rfl
            rotate_left
            · simp only [Act.put, List.setIfInBounds_toArray, List.set_cons_zero, List.set_cons_succ, i64_w, i32_w]
              rfl
            refine take_ (i := 5) (N := some 36) (v := ?_) (a' := ?_) #[true, true, true, true, true, true, true, false, false, false] rfl rfl (take_ofW HT_.out HW_.out (by kernel_rfl)) (fun _ _ _ h => h) (Or.inl ⟨by rfl, ?_⟩) hHeld ?_ ?_
            rotate_left
            · rintro w' ⟨s0, s1, s2, s3, s4, s5, s6, s7⟩
              go_simp
              with_reducible rfl
            rotate_left
            · simp only [Act.put, List.setIfInBounds_toArray, List.set_cons_zero, List.set_cons_succ, i64_w, i32_w]
              rfl
            refine one_ (i := 7) (N := some 38) #[true, true, true, true, true, true, true, true, false, false] rfl rfl (one_of HT_.out (by kernel_rfl)) (by decide) (fun K hK => ?_)
            refine goes_ Try.func30 (by kernel_rfl) rfl #[.agg #[.int .i64 a0_0, .int .i64 a0_1], .int .i64 a1] (by rfl) rfl rfl (by (try simp only [List.map_toArray, List.map_cons, List.map_nil]); first | done | rfl | (simp only [List.length_drop, List.length_take]; rfl)) ?_
            with_reducible refine (calamusref10_Quarter.calls k a0_0 a0_1 a1 t182 t183 _ A22.out).mono ?_
            rintro e w25 ⟨rfl, hb⟩
            refine ⟨_, rfl, ?_⟩
            have n0_ := Aside0.mk (blk_below (g := gb173) (o := .cells #[.int .i64 a0_0, .int .i64 a0_1, .int .i64 a0_2, .int .i64 a0_3, .int .i64 a0_4, .int .i64 a0_5] 48 (0, 0)) (by (with_reducible repeat (first | refine blk_drewN ?_ _ | refine blk_drew ?_ | refine blk_alloc ?_ _)); exact BK173.out) hb)
            have n1_ := Aside0.mk (blk_below (g := gb180) (o := .cells #[.int .i64 t177, .int .i64 t178] 23 (0, 0)) (by (with_reducible repeat (first | refine blk_drewN ?_ _ | refine blk_drew ?_ | refine blk_alloc ?_ _)); exact BK180.out) hb)
            have n2_ := Aside0.mk (below_step (by repeat (first | (with_reducible first | exact HB.out | apply below_alloc | apply pw_below_drewN | apply below_drew1 | refine below_set ?_ GE173.out | refine below_set ?_ GE180.out) | exact HB.out)) hb)
            clear BK173
            clear BK180
            clear HB
            have BK173 := n0_
            have BK180 := n1_
            have HB := n2_
            clear n0_ n1_ n2_
            (try clear hb)
            (try clear hb2)
            (try clear hk)
            (try clear hi)
            refine hK.out _ _ ⟨(blk_cell BK180.out 0).trans rfl, (blk_cell BK180.out 1).trans rfl, (blk_cell BK173.out 0).trans rfl, (blk_cell BK173.out 1).trans rfl, (blk_cell BK173.out 2).trans rfl, (blk_cell BK173.out 3).trans rfl, (blk_cell BK173.out 4).trans rfl, (blk_cell BK173.out 5).trans rfl⟩ (fun hHeld => ?_)
            clear hK K
            refine norm_ (a' := ?_) ?_ ?_
            rotate_left
            · show Act.put _ (some 38) _ = _
              simp only [Act.put, List.setIfInBounds_toArray, List.set_cons_zero, List.set_cons_succ, i64_w, i32_w]
              rfl
            refine pure_ (i := 8) (N := some 39) (v := ?_) (a' := ?_) #[true, true, true, true, true, true, true, true, true, false] rfl rfl (any_of HT_.out (by kernel_rfl)) (fun _ _ _ h => h) (Or.inl ⟨by rfl, ?_⟩) ?_ ?_
            rotate_left
            · intro w'
              go_simp
              with_reducible rfl
            rotate_left
            · simp only [Act.put, List.setIfInBounds_toArray, List.set_cons_zero, List.set_cons_succ, i64_w, i32_w]
              rfl
            refine pure_ (i := 9) (N := some 40) (v := ?_) (a' := ?_) #[true, true, true, true, true, true, true, true, true, true] rfl rfl (any_of HT_.out (by kernel_rfl)) (fun _ _ _ h => h) (Or.inl ⟨by rfl, ?_⟩) ?_ ?_
            rotate_left
            · intro w'
              go_simp
              with_reducible rfl
            rotate_left
            · simp only [Act.put, List.setIfInBounds_toArray, List.set_cons_zero, List.set_cons_succ, i64_w, i32_w]
              rfl
            refine done_ (done_of HT_.out (by kernel_rfl)) ?_
            try go_wp2
            go_meet
            case rel => exact ⟨_, H', ⟨by first | omega | exact Nat.le_refl _⟩, ⟨by (with_reducible repeat (first | refine blk_drewN ?_ _ | refine blk_drew ?_ | refine blk_alloc ?_ _)); exact BK173.out⟩, ⟨by (with_reducible repeat (first | refine blk_drewN ?_ _ | refine blk_drew ?_ | refine blk_alloc ?_ _)); exact BK180.out⟩, ⟨by repeat (first | (with_reducible first | exact HB.out | apply below_alloc | apply pw_below_drewN | apply below_drew1 | refine below_set ?_ GE173.out | refine below_set ?_ GE180.out) | exact HB.out)⟩⟩
        · rw [if_neg c21] at H
          exact absurd H (by simp)
      · replace c20 := Bool.eq_false_iff.mpr c20
        subst c20
        have H1 : (if t179 = 6 then (if (!(t177 == 0) || (!(t178 == 0))) = true then (none) else (calamuslaw10_GaussTurns.j0 k t175 t176 a0_0 a0_1 a0_2 a0_3 a0_4 a0_5)) else (none)) = some r := by rw [if_neg (show ¬ (false = true) by decide)] at H; exact H
        clear H
        have H := H1
        clear H1
        by_cases c26 : t179 = 6
        · rw [if_pos c26] at H
          have c26b0 : (t179 == 6) = true := beq_iff_eq.mpr c26
          have c26b1 : (t179 != 6) = false := bne_eq_false_iff_eq.mpr c26
          clear c26
          by_cases c27 : (!(t177 == 0) || (!(t178 == 0))) = true
          · rw [if_pos c27] at H
            exact absurd H (by simp)
          · rw [if_neg c27] at H
            have c27b0 : (!(t177 == 0) || (!(t178 == 0))) = false := by simpa using c27
            clear c27
            have H' := Aside0.mk H
            clear H
            have hnb28 := NB180_173.out
            have hnc28 := NB173_180.out
            have hcz29_0 : w19.cell? ⟨gb180, 0, none⟩ = some (.int .i64 t177) := (blk_cell BK180.out 0).trans rfl
            have hcz29_1 : w19.cell? ⟨gb180, 1, none⟩ = some (.int .i64 t178) := (blk_cell BK180.out 1).trans rfl
            have hfz29_0 := blk_frozen BK180.out 0
            have hfz29_1 := blk_frozen BK180.out 1
            go_wp2
            go_meet
            case rel => exact ⟨_, H', ⟨by first | omega | exact Nat.le_refl _⟩, ⟨by (with_reducible repeat (first | refine blk_drewN ?_ _ | refine blk_drew ?_ | refine blk_alloc ?_ _)); exact BK173.out⟩, ⟨by (with_reducible repeat (first | refine blk_drewN ?_ _ | refine blk_drew ?_ | refine blk_alloc ?_ _)); exact BK180.out⟩, ⟨by repeat (first | (with_reducible first | exact HB.out | apply below_alloc | apply pw_below_drewN | apply below_drew1 | refine below_set ?_ GE173.out | refine below_set ?_ GE180.out) | exact HB.out)⟩⟩
        · rw [if_neg c26] at H
          exact absurd H (by simp)
    case rest =>
      clear HC8
      try clear c1
      try clear c2
      try clear p2
      try clear c3
      try clear c4
      try clear c7
      try clear c14
      try clear c15
      try clear c16
      try clear c20
      try clear c21
      try clear c21b0
      try clear c21b1
      try clear c23
      try clear c23b0
      try clear c26
      try clear c26b0
      try clear c26b1
      try clear c27
      try clear c27b0
      try clear c28
      try clear c29
      try clear hcz11_0
      try clear hcz11_1
      try clear hcz11_2
      try clear hcz11_3
      try clear hcz11_4
      try clear hcz11_5
      try clear hcz13_0
      try clear hcz13_1
      try clear hcz13_2
      try clear hcz13_3
      try clear hcz13_4
      try clear hcz13_5
      try clear hcz17_0
      try clear hcz17_1
      try clear hcz18_0
      try clear hcz18_1
      try clear hcz18_2
      try clear hcz18_3
      try clear hcz18_4
      try clear hcz18_5
      try clear hcz29_0
      try clear hcz29_1
      try clear hfz11_0
      try clear hfz11_1
      try clear hfz11_2
      try clear hfz11_3
      try clear hfz11_4
      try clear hfz11_5
      try clear hfz13_0
      try clear hfz13_1
      try clear hfz13_2
      try clear hfz13_3
      try clear hfz13_4
      try clear hfz13_5
      try clear hfz17_0
      try clear hfz17_1
      try clear hfz18_0
      try clear hfz18_1
      try clear hfz18_2
      try clear hfz18_3
      try clear hfz18_4
      try clear hfz18_5
      try clear hfz29_0
      try clear hfz29_1
      obtain ⟨kq, HA, HJ7, BK173, BK180, HB⟩ := hcut
      cases kq with
      | zero => exact absurd HA.out (by simp [calamuslaw10_GaussTurns.j0])
      | succ kj7 =>
        have H := HA.out
        clear HA
        simp only [calamuslaw10_GaussTurns.j0] at H
        replace H := Option.bind_eq_some_iff.mp H
        obtain ⟨t184, A300, H⟩ := H
        replace H : (if t184 = true then (if t176 = 0 then ((calamusref10_Turn.f a0_0 a0_1 a0_2 a0_3 a0_4 a0_5).bind fun t185 => (some (t175 == t185))) else (none)) else (if t176 = 6 then (some (t175 == 0)) else (none))) = some r := H
        have A30 := Aside0.mk A300
        clear A300
        by_cases c31 : t184 = true
        · subst c31
          have H1 : (if t176 = 0 then ((calamusref10_Turn.f a0_0 a0_1 a0_2 a0_3 a0_4 a0_5).bind fun t185 => (some (t175 == t185))) else (none)) = some r := by rw [if_pos rfl] at H; exact H
          clear H
          have H := H1
          clear H1
          by_cases c32 : t176 = 0
          · rw [if_pos c32] at H
            have c32b0 : (t176 == 0) = true := beq_iff_eq.mpr c32
            have c32b1 : (t176 != 0) = false := bne_eq_false_iff_eq.mpr c32
            clear c32
            replace H := Option.bind_eq_some_iff.mp H
            obtain ⟨t185, A330, H⟩ := H
            replace H : (some (t175 == t185)) = some r := H
            have A33 := Aside0.mk A330
            clear A330
            obtain rfl := Option.some.inj H
            have hnb34 := NB173_180.out
            have hnc34 := NB180_173.out
            have hcz35_0 : wc.cell? ⟨gb173, 0, none⟩ = some (.int .i64 a0_0) := (blk_cell BK173.out 0).trans rfl
            have hcz35_1 : wc.cell? ⟨gb173, 1, none⟩ = some (.int .i64 a0_1) := (blk_cell BK173.out 1).trans rfl
            have hcz35_2 : wc.cell? ⟨gb173, 2, none⟩ = some (.int .i64 a0_2) := (blk_cell BK173.out 2).trans rfl
            have hcz35_3 : wc.cell? ⟨gb173, 3, none⟩ = some (.int .i64 a0_3) := (blk_cell BK173.out 3).trans rfl
            have hcz35_4 : wc.cell? ⟨gb173, 4, none⟩ = some (.int .i64 a0_4) := (blk_cell BK173.out 4).trans rfl
            have hcz35_5 : wc.cell? ⟨gb173, 5, none⟩ = some (.int .i64 a0_5) := (blk_cell BK173.out 5).trans rfl
            have hfz35_0 := blk_frozen BK173.out 0
            have hfz35_1 := blk_frozen BK173.out 1
            have hfz35_2 := blk_frozen BK173.out 2
            have hfz35_3 := blk_frozen BK173.out 3
            have hfz35_4 := blk_frozen BK173.out 4
            have hfz35_5 := blk_frozen BK173.out 5
            go_wp2_with (first | ((with_reducible refine gate_callee (f := 24) rfl ?_); refine goesL_ (some 49) rfl rfl Try.func24 (by kernel_rfl) rfl #[.slice (some ⟨gb173, 0, none⟩) ([⟨a0_0, a0_1⟩, ⟨a0_2, a0_3⟩, ⟨a0_4, a0_5⟩] : List (S23)).length 3] rfl (by (try simp only [List.map_toArray, List.map_cons, List.map_nil]); first | done | rfl | (simp only [List.length_drop, List.length_take]; rfl)) ?_; (with_reducible refine (calamusref10_All.calls kj7 _ _ ([⟨a0_0, a0_1⟩, ⟨a0_2, a0_3⟩, ⟨a0_4, a0_5⟩] : List (S23)) true _ ?side1 ?side2 A30.out).mono ?_); (case side1 => exact Aid.row3 k23 rfl (by (with_reducible repeat (first | refine blk_drewN ?_ _ | refine blk_drew ?_ | refine blk_alloc ?_ _)); exact BK173.out) (k23_mk _ _) (k23_mk _ _) (k23_mk _ _)); (case side2 => exact Nat.le_refl 3); rintro e w36 ⟨rfl, hb⟩; refine ⟨_, rfl, ?_⟩; have n0_ := Aside0.mk (blk_below (g := gb173) (o := .cells #[.int .i64 a0_0, .int .i64 a0_1, .int .i64 a0_2, .int .i64 a0_3, .int .i64 a0_4, .int .i64 a0_5] 48 (0, 0)) (by (with_reducible repeat (first | refine blk_drewN ?_ _ | refine blk_drew ?_ | refine blk_alloc ?_ _)); exact BK173.out) hb); have n1_ := Aside0.mk (blk_below (g := gb180) (o := .cells #[.int .i64 t177, .int .i64 t178] 23 (0, 0)) (by (with_reducible repeat (first | refine blk_drewN ?_ _ | refine blk_drew ?_ | refine blk_alloc ?_ _)); exact BK180.out) hb); have n2_ := Aside0.mk (below_step (by repeat (first | (with_reducible first | exact HB.out | apply below_alloc | apply pw_below_drewN | apply below_drew1 | refine below_set ?_ GE173.out | refine below_set ?_ GE180.out) | exact HB.out)) hb); clear BK173; clear BK180; clear HB; have BK173 := n0_; have BK180 := n1_; have HB := n2_; clear n0_ n1_ n2_; (try clear hb); (try clear hb2); (try clear hk); (try clear hi); have hcz37_0 : w36.cell? ⟨gb173, 0, none⟩ = some (.int .i64 a0_0) := (blk_cell BK173.out 0).trans rfl; have hcz37_1 : w36.cell? ⟨gb173, 1, none⟩ = some (.int .i64 a0_1) := (blk_cell BK173.out 1).trans rfl; have hcz37_2 : w36.cell? ⟨gb173, 2, none⟩ = some (.int .i64 a0_2) := (blk_cell BK173.out 2).trans rfl; have hcz37_3 : w36.cell? ⟨gb173, 3, none⟩ = some (.int .i64 a0_3) := (blk_cell BK173.out 3).trans rfl; have hcz37_4 : w36.cell? ⟨gb173, 4, none⟩ = some (.int .i64 a0_4) := (blk_cell BK173.out 4).trans rfl; have hcz37_5 : w36.cell? ⟨gb173, 5, none⟩ = some (.int .i64 a0_5) := (blk_cell BK173.out 5).trans rfl; have hfz37_0 := blk_frozen BK173.out 0; have hfz37_1 := blk_frozen BK173.out 1; have hfz37_2 := blk_frozen BK173.out 2; have hfz37_3 := blk_frozen BK173.out 3; have hfz37_4 := blk_frozen BK173.out 4; have hfz37_5 := blk_frozen BK173.out 5) | (go_at_call 31; (with_reducible refine (calamusref10_Turn.calls a0_0 a0_1 a0_2 a0_3 a0_4 a0_5 t185 _ A33.out).mono ?_); rintro e w38 ⟨rfl, hb⟩; have n0_ := Aside0.mk (blk_below (g := gb173) (o := .cells #[.int .i64 a0_0, .int .i64 a0_1, .int .i64 a0_2, .int .i64 a0_3, .int .i64 a0_4, .int .i64 a0_5] 48 (0, 0)) (by (with_reducible repeat (first | refine blk_drewN ?_ _ | refine blk_drew ?_ | refine blk_alloc ?_ _)); exact BK173.out) hb); have n1_ := Aside0.mk (blk_below (g := gb180) (o := .cells #[.int .i64 t177, .int .i64 t178] 23 (0, 0)) (by (with_reducible repeat (first | refine blk_drewN ?_ _ | refine blk_drew ?_ | refine blk_alloc ?_ _)); exact BK180.out) hb); have n2_ := Aside0.mk (below_step (by repeat (first | (with_reducible first | exact HB.out | apply below_alloc | apply pw_below_drewN | apply below_drew1 | refine below_set ?_ GE173.out | refine below_set ?_ GE180.out) | exact HB.out)) hb); clear BK173; clear BK180; clear HB; have BK173 := n0_; have BK180 := n1_; have HB := n2_; clear n0_ n1_ n2_; (try clear hb); (try clear hb2); (try clear hk); (try clear hi)))
            go_ret
            exact ⟨by first | rfl | (simp [errW_none, errW_some] <;> rfl) | (simp [*, errW_none, errW_some] <;> rfl), by repeat (first | (with_reducible first | exact HB.out | apply below_alloc | apply pw_below_drewN | apply below_drew1 | refine below_set ?_ GE173.out | refine below_set ?_ GE180.out) | exact HB.out)⟩
          · rw [if_neg c32] at H
            exact absurd H (by simp)
        · replace c31 := Bool.eq_false_iff.mpr c31
          subst c31
          have H1 : (if t176 = 6 then (some (t175 == 0)) else (none)) = some r := by rw [if_neg (show ¬ (false = true) by decide)] at H; exact H
          clear H
          have H := H1
          clear H1
          by_cases c39 : t176 = 6
          · rw [if_pos c39] at H
            have c39b0 : (t176 == 6) = true := beq_iff_eq.mpr c39
            have c39b1 : (t176 != 6) = false := bne_eq_false_iff_eq.mpr c39
            clear c39
            obtain rfl := Option.some.inj H
            have hnb40 := NB173_180.out
            have hnc40 := NB180_173.out
            have hcz41_0 : wc.cell? ⟨gb173, 0, none⟩ = some (.int .i64 a0_0) := (blk_cell BK173.out 0).trans rfl
            have hcz41_1 : wc.cell? ⟨gb173, 1, none⟩ = some (.int .i64 a0_1) := (blk_cell BK173.out 1).trans rfl
            have hcz41_2 : wc.cell? ⟨gb173, 2, none⟩ = some (.int .i64 a0_2) := (blk_cell BK173.out 2).trans rfl
            have hcz41_3 : wc.cell? ⟨gb173, 3, none⟩ = some (.int .i64 a0_3) := (blk_cell BK173.out 3).trans rfl
            have hcz41_4 : wc.cell? ⟨gb173, 4, none⟩ = some (.int .i64 a0_4) := (blk_cell BK173.out 4).trans rfl
            have hcz41_5 : wc.cell? ⟨gb173, 5, none⟩ = some (.int .i64 a0_5) := (blk_cell BK173.out 5).trans rfl
            have hfz41_0 := blk_frozen BK173.out 0
            have hfz41_1 := blk_frozen BK173.out 1
            have hfz41_2 := blk_frozen BK173.out 2
            have hfz41_3 := blk_frozen BK173.out 3
            have hfz41_4 := blk_frozen BK173.out 4
            have hfz41_5 := blk_frozen BK173.out 5
            go_wp2_with (first | ((with_reducible refine gate_callee (f := 24) rfl ?_); refine goesL_ (some 49) rfl rfl Try.func24 (by kernel_rfl) rfl #[.slice (some ⟨gb173, 0, none⟩) ([⟨a0_0, a0_1⟩, ⟨a0_2, a0_3⟩, ⟨a0_4, a0_5⟩] : List (S23)).length 3] rfl (by (try simp only [List.map_toArray, List.map_cons, List.map_nil]); first | done | rfl | (simp only [List.length_drop, List.length_take]; rfl)) ?_; (with_reducible refine (calamusref10_All.calls kj7 _ _ ([⟨a0_0, a0_1⟩, ⟨a0_2, a0_3⟩, ⟨a0_4, a0_5⟩] : List (S23)) false _ ?side1 ?side2 A30.out).mono ?_); (case side1 => exact Aid.row3 k23 rfl (by (with_reducible repeat (first | refine blk_drewN ?_ _ | refine blk_drew ?_ | refine blk_alloc ?_ _)); exact BK173.out) (k23_mk _ _) (k23_mk _ _) (k23_mk _ _)); (case side2 => exact Nat.le_refl 3); rintro e w42 ⟨rfl, hb⟩; refine ⟨_, rfl, ?_⟩; have n0_ := Aside0.mk (blk_below (g := gb173) (o := .cells #[.int .i64 a0_0, .int .i64 a0_1, .int .i64 a0_2, .int .i64 a0_3, .int .i64 a0_4, .int .i64 a0_5] 48 (0, 0)) (by (with_reducible repeat (first | refine blk_drewN ?_ _ | refine blk_drew ?_ | refine blk_alloc ?_ _)); exact BK173.out) hb); have n1_ := Aside0.mk (blk_below (g := gb180) (o := .cells #[.int .i64 t177, .int .i64 t178] 23 (0, 0)) (by (with_reducible repeat (first | refine blk_drewN ?_ _ | refine blk_drew ?_ | refine blk_alloc ?_ _)); exact BK180.out) hb); have n2_ := Aside0.mk (below_step (by repeat (first | (with_reducible first | exact HB.out | apply below_alloc | apply pw_below_drewN | apply below_drew1 | refine below_set ?_ GE173.out | refine below_set ?_ GE180.out) | exact HB.out)) hb); clear BK173; clear BK180; clear HB; have BK173 := n0_; have BK180 := n1_; have HB := n2_; clear n0_ n1_ n2_; (try clear hb); (try clear hb2); (try clear hk); (try clear hi)))
            go_ret
            exact ⟨by first | rfl | (simp [errW_none, errW_some] <;> rfl) | (simp [*, errW_none, errW_some] <;> rfl), by repeat (first | (with_reducible first | exact HB.out | apply below_alloc | apply pw_below_drewN | apply below_drew1 | refine below_set ?_ GE173.out | refine below_set ?_ GE180.out) | exact HB.out)⟩
          · rw [if_neg c39] at H
            exact absurd H (by simp)
  · replace c4 := Bool.eq_false_iff.mpr c4
    subst c4
    have H1 : (none) = some r := by rw [if_neg (show ¬ (false = true) by decide)] at H; exact H
    clear H
    have H := H1
    clear H1
    exact absurd H (by simp)

end Go.Proofs.Ytgibokbkobcnaaa.G
