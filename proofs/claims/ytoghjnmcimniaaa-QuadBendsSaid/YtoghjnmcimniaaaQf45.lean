/- What Go functions answer, as Lean functions, and that they do: written by wip/xprint.py of this session (the kit's printer with turns, texts by hand among them). -/
import Derived.Test.YtoghjnmcimniaaaQ0
import Derived.Test.YtoghjnmcimniaaaQd0
import Derived.Test.YtoghjnmcimniaaaQf54
import Derived.Test.YtoghjnmcimniaaaQf44
namespace Go.Proofs.Ytoghjnmcimniaaa.Q
open Go.RowKit Go.Proofs.YtoghjnmcimniaaaW.PrintWords Go.Proofs.YtoghjnmcimniaaaW.PrintLast Go.Proofs.YtoghjnmcimniaaaW.PrintMore
attribute [local go_sem] max2_int min2_int max_two min_two max_three min_three max_four min_four   -- for this text's walks alone
set_option linter.unusedVariables false
set_option linter.unusedSimpArgs false

/-! ### calamusref13_Steps: function 45 -/
set_option maxHeartbeats 8000000 in
set_option maxRecDepth 100000 in
theorem calamusref13_Steps.calls (k : Nat) (a0_0 : Int) (a0_1 : Int) (a0_2 : Int) (a0_3 : Int) (a0_4 : Int) (a0_5 : Int) (a0_6 : Bool) (r : Int) (w : World) (h : calamusref13_Steps.f k a0_0 a0_1 a0_2 a0_3 a0_4 a0_5 a0_6 = some r) :
    Calls Try.prog 45 #[.agg #[.int .i64 a0_0, .int .i64 a0_1, .int .i64 a0_2, .int .i64 a0_3, .int .i64 a0_4, .int .i64 a0_5, .bool a0_6]] w fun e w' => e = .returned (.int .i64 r) ∧ Below w.heap.size w w' := by
  have hu37 := Try.underlying37
  have HB := Aside0.mk (Below.refl w.heap.size w)
  have H : (calamusref13_Steps.l0 k 0 a0_0 a0_1 a0_2 a0_3 a0_4 a0_5 a0_6) = some r := h
  clear h
  have H' := Aside0.mk H
  clear H
  go_enter Try.func45, Try.ntmps45
  go_wp2_with (first | ((with_reducible refine gate_dst (N := 1) rfl ?_); refine box_event ?hg (N := 1) ?hd (cs := #[.int .i64 a0_0, .int .i64 a0_1, .int .i64 a0_2, .int .i64 a0_3, .int .i64 a0_4, .int .i64 a0_5, .bool a0_6]) (t := 37) ?hr ?_; (case hd => rfl); (case hg => rfl); (case hr => first | (go_simp; done) | (go_simp; rfl)); intro gb391 hg w2 hbox hb; have n0_ := Aside0.mk (below_step (by repeat (first | (with_reducible first | exact HB.out | apply below_alloc | apply pw_below_drewN | apply below_drew1) | exact HB.out)) hb); have n1_ := Aside0.mk (hbox); have n2_ := Aside0.mk ((by rw [hg]; exact (below_size (by repeat (first | (with_reducible first | exact HB.out | apply below_alloc | apply pw_below_drewN | apply below_drew1) | exact HB.out))) : w.heap.size ≤ gb391)); have n3_ := Aside0.mk ((by rw [hg]; exact (below_size (by repeat (first | (with_reducible first | exact HB.out | apply below_alloc | apply pw_below_drewN | apply below_drew1) | exact HB.out))) : w.heap.size ≤ gb391)); clear HB; have HB := n0_; have BK391 := n1_; have GW391 := n2_; have GE391 := n3_; clear n0_ n1_ n2_ n3_; clear hb hbox hg))
  go_loopg [3] k (fun kq v3 w' => ∃ (x3_1 : Int), v3 = .int .i64 x3_1 ∧ Aside0 (calamusref13_Steps.l0 kq x3_1 a0_0 a0_1 a0_2 a0_3 a0_4 a0_5 a0_6 = some r) ∧ Aside0 (kq ≤ k) ∧ Aside0 (w'.heap[gb391]? = some (.cells #[.int .i64 a0_0, .int .i64 a0_1, .int .i64 a0_2, .int .i64 a0_3, .int .i64 a0_4, .int .i64 a0_5, .bool a0_6] 37 (0, 0))) ∧ Aside0 (Below w.heap.size w w'))
  case atStart => exact ⟨(0), (by first | rfl | (simp; done) | (simp [*]; done)), H', ⟨Nat.le_refl _⟩, ⟨by (with_reducible repeat (first | refine blk_drewN ?_ _ | refine blk_drew ?_ | refine blk_alloc ?_ _)); exact BK391.out⟩, ⟨by repeat (first | (with_reducible first | exact HB.out | apply below_alloc | apply pw_below_drewN | apply below_drew1 | refine below_set ?_ GE391.out) | exact HB.out)⟩⟩
  case round =>
    clear H'
    try clear p2
    obtain ⟨x3_1, rfl, HA, HK1, BK391, HB⟩ := hrel
    cases gk with
    | zero => exact absurd HA.out (by simp [calamusref13_Steps.l0])
    | succ k1 =>
      have H := HA.out
      clear HA
      simp only [calamusref13_Steps.l0] at H
      replace H := Option.bind_eq_some_iff.mp H
      obtain ⟨t392, A30, H⟩ := H
      replace H : ((calamusref13_Power.f k1 4 x3_1).bind fun t393 => (if t392 > (wrap64 (64 * t393)) then (calamusref13_Steps.l0 k1 (wrap64 (x3_1 + 1)) a0_0 a0_1 a0_2 a0_3 a0_4 a0_5 a0_6) else (some x3_1))) = some r := H
      have A3 := Aside0.mk A30
      clear A30
      replace H := Option.bind_eq_some_iff.mp H
      obtain ⟨t393, A40, H⟩ := H
      replace H : (if t392 > (wrap64 (64 * t393)) then (calamusref13_Steps.l0 k1 (wrap64 (x3_1 + 1)) a0_0 a0_1 a0_2 a0_3 a0_4 a0_5 a0_6) else (some x3_1)) = some r := H
      have A4 := Aside0.mk A40
      clear A40
      by_cases c5 : t392 > (wrap64 (64 * t393))
      · rw [if_pos c5] at H
        have c5b0 : decide ((wrap64 (64 * t393)) < t392) = true := decide_eq_true c5
        clear c5
        have H' := Aside0.mk H
        clear H
        have hcz6_0 : wr.cell? ⟨gb391, 0, none⟩ = some (.int .i64 a0_0) := (blk_cell BK391.out 0).trans rfl
        have hcz6_1 : wr.cell? ⟨gb391, 1, none⟩ = some (.int .i64 a0_1) := (blk_cell BK391.out 1).trans rfl
        have hcz6_2 : wr.cell? ⟨gb391, 2, none⟩ = some (.int .i64 a0_2) := (blk_cell BK391.out 2).trans rfl
        have hcz6_3 : wr.cell? ⟨gb391, 3, none⟩ = some (.int .i64 a0_3) := (blk_cell BK391.out 3).trans rfl
        have hcz6_4 : wr.cell? ⟨gb391, 4, none⟩ = some (.int .i64 a0_4) := (blk_cell BK391.out 4).trans rfl
        have hcz6_5 : wr.cell? ⟨gb391, 5, none⟩ = some (.int .i64 a0_5) := (blk_cell BK391.out 5).trans rfl
        have hcz6_6 : wr.cell? ⟨gb391, 6, none⟩ = some (.bool a0_6) := (blk_cell BK391.out 6).trans rfl
        have hfz6_0 := blk_frozen BK391.out 0
        have hfz6_1 := blk_frozen BK391.out 1
        have hfz6_2 := blk_frozen BK391.out 2
        have hfz6_3 := blk_frozen BK391.out 3
        have hfz6_4 := blk_frozen BK391.out 4
        have hfz6_5 := blk_frozen BK391.out 5
        have hfz6_6 := blk_frozen BK391.out 6
        go_wp2_with (first | ((with_reducible refine gate_callee (f := 44) rfl ?_); refine goesL_ (some 5) rfl rfl Try.func44 (by kernel_rfl) rfl #[.agg #[.int .i64 a0_0, .int .i64 a0_1, .int .i64 a0_2, .int .i64 a0_3, .int .i64 a0_4, .int .i64 a0_5, .bool a0_6]] rfl (by (try simp only [List.map_toArray, List.map_cons, List.map_nil]); first | done | rfl | (simp only [List.length_drop, List.length_take]; rfl)) ?_; (with_reducible refine (calamusref13_Bend.calls k1 a0_0 a0_1 a0_2 a0_3 a0_4 a0_5 a0_6 t392 _ A3.out).mono ?_); rintro e w7 ⟨rfl, hb⟩; refine ⟨_, rfl, ?_⟩; have n0_ := Aside0.mk (blk_below (g := gb391) (o := .cells #[.int .i64 a0_0, .int .i64 a0_1, .int .i64 a0_2, .int .i64 a0_3, .int .i64 a0_4, .int .i64 a0_5, .bool a0_6] 37 (0, 0)) (by (with_reducible repeat (first | refine blk_drewN ?_ _ | refine blk_drew ?_ | refine blk_alloc ?_ _)); exact BK391.out) hb); have n1_ := Aside0.mk (below_step (by repeat (first | (with_reducible first | exact HB.out | apply below_alloc | apply pw_below_drewN | apply below_drew1 | refine below_set ?_ GE391.out) | exact HB.out)) hb); clear BK391; clear HB; have BK391 := n0_; have HB := n1_; clear n0_ n1_; (try clear hb); (try clear hb2); (try clear hk); (try clear hi)) | ((with_reducible refine gate_callee (f := 54) rfl ?_); refine goesL_ (some 7) rfl rfl Try.func54 (by kernel_rfl) rfl #[.int .i64 4, .int .i64 x3_1] rfl (by (try simp only [List.map_toArray, List.map_cons, List.map_nil]); first | done | rfl | (simp only [List.length_drop, List.length_take]; rfl)) ?_; (with_reducible refine (calamusref13_Power.calls k1 4 x3_1 t393 _ A4.out).mono ?_); rintro e w' ⟨rfl, ⟨nd, rfl⟩⟩; refine ⟨_, rfl, ?_⟩))
        go_roundg k1
        case measure => have := HK1.out; omega
        case rel => exact ⟨(wrap64 (x3_1 + 1)), (by first | rfl | (simp; done) | (simp [*]; done)), H', ⟨by have := HK1.out; omega⟩, ⟨by (with_reducible repeat (first | refine blk_drewN ?_ _ | refine blk_drew ?_ | refine blk_alloc ?_ _)); exact BK391.out⟩, ⟨by repeat (first | (with_reducible first | exact HB.out | apply below_alloc | apply pw_below_drewN | apply below_drew1 | refine below_set ?_ GE391.out) | exact HB.out)⟩⟩
      · rw [if_neg c5] at H
        have c5b0 : decide ((wrap64 (64 * t393)) < t392) = false := decide_eq_false c5
        clear c5
        obtain rfl := Option.some.inj H
        have hcz8_0 : wr.cell? ⟨gb391, 0, none⟩ = some (.int .i64 a0_0) := (blk_cell BK391.out 0).trans rfl
        have hcz8_1 : wr.cell? ⟨gb391, 1, none⟩ = some (.int .i64 a0_1) := (blk_cell BK391.out 1).trans rfl
        have hcz8_2 : wr.cell? ⟨gb391, 2, none⟩ = some (.int .i64 a0_2) := (blk_cell BK391.out 2).trans rfl
        have hcz8_3 : wr.cell? ⟨gb391, 3, none⟩ = some (.int .i64 a0_3) := (blk_cell BK391.out 3).trans rfl
        have hcz8_4 : wr.cell? ⟨gb391, 4, none⟩ = some (.int .i64 a0_4) := (blk_cell BK391.out 4).trans rfl
        have hcz8_5 : wr.cell? ⟨gb391, 5, none⟩ = some (.int .i64 a0_5) := (blk_cell BK391.out 5).trans rfl
        have hcz8_6 : wr.cell? ⟨gb391, 6, none⟩ = some (.bool a0_6) := (blk_cell BK391.out 6).trans rfl
        have hfz8_0 := blk_frozen BK391.out 0
        have hfz8_1 := blk_frozen BK391.out 1
        have hfz8_2 := blk_frozen BK391.out 2
        have hfz8_3 := blk_frozen BK391.out 3
        have hfz8_4 := blk_frozen BK391.out 4
        have hfz8_5 := blk_frozen BK391.out 5
        have hfz8_6 := blk_frozen BK391.out 6
        go_wp2_with (first | ((with_reducible refine gate_callee (f := 44) rfl ?_); refine goesL_ (some 5) rfl rfl Try.func44 (by kernel_rfl) rfl #[.agg #[.int .i64 a0_0, .int .i64 a0_1, .int .i64 a0_2, .int .i64 a0_3, .int .i64 a0_4, .int .i64 a0_5, .bool a0_6]] rfl (by (try simp only [List.map_toArray, List.map_cons, List.map_nil]); first | done | rfl | (simp only [List.length_drop, List.length_take]; rfl)) ?_; (with_reducible refine (calamusref13_Bend.calls k1 a0_0 a0_1 a0_2 a0_3 a0_4 a0_5 a0_6 t392 _ A3.out).mono ?_); rintro e w9 ⟨rfl, hb⟩; refine ⟨_, rfl, ?_⟩; have n0_ := Aside0.mk (blk_below (g := gb391) (o := .cells #[.int .i64 a0_0, .int .i64 a0_1, .int .i64 a0_2, .int .i64 a0_3, .int .i64 a0_4, .int .i64 a0_5, .bool a0_6] 37 (0, 0)) (by (with_reducible repeat (first | refine blk_drewN ?_ _ | refine blk_drew ?_ | refine blk_alloc ?_ _)); exact BK391.out) hb); have n1_ := Aside0.mk (below_step (by repeat (first | (with_reducible first | exact HB.out | apply below_alloc | apply pw_below_drewN | apply below_drew1 | refine below_set ?_ GE391.out) | exact HB.out)) hb); clear BK391; clear HB; have BK391 := n0_; have HB := n1_; clear n0_ n1_; (try clear hb); (try clear hb2); (try clear hk); (try clear hi)) | ((with_reducible refine gate_callee (f := 54) rfl ?_); refine goesL_ (some 7) rfl rfl Try.func54 (by kernel_rfl) rfl #[.int .i64 4, .int .i64 x3_1] rfl (by (try simp only [List.map_toArray, List.map_cons, List.map_nil]); first | done | rfl | (simp only [List.length_drop, List.length_take]; rfl)) ?_; (with_reducible refine (calamusref13_Power.calls k1 4 x3_1 t393 _ A4.out).mono ?_); rintro e w' ⟨rfl, ⟨nd, rfl⟩⟩; refine ⟨_, rfl, ?_⟩))
        go_ret
        exact ⟨by first | rfl | (simp [errW_none, errW_some] <;> rfl) | (simp [*, errW_none, errW_some] <;> rfl), by repeat (first | (with_reducible first | exact HB.out | apply below_alloc | apply pw_below_drewN | apply below_drew1 | refine below_set ?_ GE391.out) | exact HB.out)⟩

end Go.Proofs.Ytoghjnmcimniaaa.Q
