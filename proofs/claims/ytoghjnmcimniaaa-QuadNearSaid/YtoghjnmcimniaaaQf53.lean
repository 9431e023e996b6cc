/- What Go functions answer, as Lean functions, and that they do: written by wip/xprint.py of this session (the kit's printer with turns, texts by hand among them). -/
import Derived.Test.YtoghjnmcimniaaaQ0
import Derived.Test.YtoghjnmcimniaaaQd0
namespace Go.Proofs.Ytoghjnmcimniaaa.Q
open Go.RowKit Go.Proofs.YtoghjnmcimniaaaW.PrintWords Go.Proofs.YtoghjnmcimniaaaW.PrintLast Go.Proofs.YtoghjnmcimniaaaW.PrintMore
attribute [local go_sem] max2_int min2_int max_two min_two max_three min_three max_four min_four   -- for this text's walks alone
set_option linter.unusedVariables false
set_option linter.unusedSimpArgs false

/-! ### quad_mix: function 53 -/
-- CALLS
set_option maxHeartbeats 1000000 in
theorem quad_mix.mix2 (x y : Int) (w : World) : Calls Try.prog 63 #[.agg #[.int .i64 x, .int .i64 y]] w fun e w' => e = .returned (.int .i64 x) ∧ Below w.heap.size w w' := by
  have huP := Try.underlying33
  go_enter Try.func63, Try.ntmps63
  go_wp2
  go_ret
  exact ⟨rfl, below_alloc (Below.refl _ _) _⟩
set_option maxHeartbeats 1000000 in
theorem quad_mix.mix3 (x y : Int) (w : World) : Calls Try.prog 64 #[.agg #[.int .i64 x, .int .i64 y]] w fun e w' => e = .returned (.int .i64 y) ∧ Below w.heap.size w w' := by
  have huP := Try.underlying33
  go_enter Try.func64, Try.ntmps64
  go_wp2
  go_ret
  exact ⟨rfl, below_alloc (Below.refl _ _) _⟩
set_option maxHeartbeats 1000000 in
theorem quad_mix.mix1x (x0 x1 x2 x3 x4 x5 : Int) (a c b : Int) (w : World) (bs ba bc bb : Nat)
    (h0 : w.cell? ⟨bs, 0, none⟩ = some (.int .i64 x0)) (h1 : w.cell? ⟨bs, 1, none⟩ = some (.int .i64 x1)) (h2 : w.cell? ⟨bs, 2, none⟩ = some (.int .i64 x2)) (h3 : w.cell? ⟨bs, 3, none⟩ = some (.int .i64 x3)) (h4 : w.cell? ⟨bs, 4, none⟩ = some (.int .i64 x4)) (h5 : w.cell? ⟨bs, 5, none⟩ = some (.int .i64 x5)) (h6 : w.cell? ⟨ba, 0, none⟩ = some (.int .i64 a)) (h7 : w.cell? ⟨bc, 0, none⟩ = some (.int .i64 c)) (h8 : w.cell? ⟨bb, 0, none⟩ = some (.int .i64 b)) :
    Calls Try.prog 62 #[.func (.func 63) #[] #[], .pointer (some ⟨ba, 0, none⟩), .pointer (some ⟨bs, 0, none⟩), .pointer (some ⟨bc, 0, none⟩), .pointer (some ⟨bb, 0, none⟩)] w fun e w' => e = .returned (.int .i64 (wrap64 (wrap64 (wrap64 (a * x0) + wrap64 (c * x2)) + wrap64 (b * x4)))) ∧ Below w.heap.size w w' := by
  have huP := Try.underlying33
  go_enter Try.func62, Try.ntmps62
  go_wp2_with fail
  go_region_held3 (fun w' => w'.cell? ⟨bs, 0, none⟩ = some (.int .i64 x0) ∧ w'.cell? ⟨bs, 1, none⟩ = some (.int .i64 x1) ∧ w'.cell? ⟨bs, 2, none⟩ = some (.int .i64 x2) ∧ w'.cell? ⟨bs, 3, none⟩ = some (.int .i64 x3) ∧ w'.cell? ⟨bs, 4, none⟩ = some (.int .i64 x4) ∧ w'.cell? ⟨bs, 5, none⟩ = some (.int .i64 x5) ∧ w'.cell? ⟨ba, 0, none⟩ = some (.int .i64 a) ∧ w'.cell? ⟨bc, 0, none⟩ = some (.int .i64 c) ∧ w'.cell? ⟨bb, 0, none⟩ = some (.int .i64 b) ∧ Below w.heap.size w w')
    (first
      | ((try go_split_ands); refine ⟨?_, ?_, ?_, ?_, ?_, ?_, ?_, ?_, ?_, ?_⟩ <;> (first | (with_reducible assumption) | (with_reducible refine pw_cell_below hbel ?_; with_reducible assumption) | (with_reducible refine below_step ?_ hbel; with_reducible assumption) | (with_reducible exact below_drew1 (Below.refl _ _)) | go_keep))
      | fail)
    ((go_at_call 63; (with_reducible refine (quad_mix.mix2 _ _ _).mono ?_); rintro e w' ⟨rfl, hbel⟩))
  go_split_ands
  go_wp2
  go_ret
  exact ⟨by simp [i64_w], by assumption⟩
set_option maxHeartbeats 1000000 in
theorem quad_mix.mix1y (x0 x1 x2 x3 x4 x5 : Int) (a c b : Int) (w : World) (bs ba bc bb : Nat)
    (h0 : w.cell? ⟨bs, 0, none⟩ = some (.int .i64 x0)) (h1 : w.cell? ⟨bs, 1, none⟩ = some (.int .i64 x1)) (h2 : w.cell? ⟨bs, 2, none⟩ = some (.int .i64 x2)) (h3 : w.cell? ⟨bs, 3, none⟩ = some (.int .i64 x3)) (h4 : w.cell? ⟨bs, 4, none⟩ = some (.int .i64 x4)) (h5 : w.cell? ⟨bs, 5, none⟩ = some (.int .i64 x5)) (h6 : w.cell? ⟨ba, 0, none⟩ = some (.int .i64 a)) (h7 : w.cell? ⟨bc, 0, none⟩ = some (.int .i64 c)) (h8 : w.cell? ⟨bb, 0, none⟩ = some (.int .i64 b)) :
    Calls Try.prog 62 #[.func (.func 64) #[] #[], .pointer (some ⟨ba, 0, none⟩), .pointer (some ⟨bs, 0, none⟩), .pointer (some ⟨bc, 0, none⟩), .pointer (some ⟨bb, 0, none⟩)] w fun e w' => e = .returned (.int .i64 (wrap64 (wrap64 (wrap64 (a * x1) + wrap64 (c * x3)) + wrap64 (b * x5)))) ∧ Below w.heap.size w w' := by
  have huP := Try.underlying33
  go_enter Try.func62, Try.ntmps62
  go_wp2_with fail
  go_region_held3 (fun w' => w'.cell? ⟨bs, 0, none⟩ = some (.int .i64 x0) ∧ w'.cell? ⟨bs, 1, none⟩ = some (.int .i64 x1) ∧ w'.cell? ⟨bs, 2, none⟩ = some (.int .i64 x2) ∧ w'.cell? ⟨bs, 3, none⟩ = some (.int .i64 x3) ∧ w'.cell? ⟨bs, 4, none⟩ = some (.int .i64 x4) ∧ w'.cell? ⟨bs, 5, none⟩ = some (.int .i64 x5) ∧ w'.cell? ⟨ba, 0, none⟩ = some (.int .i64 a) ∧ w'.cell? ⟨bc, 0, none⟩ = some (.int .i64 c) ∧ w'.cell? ⟨bb, 0, none⟩ = some (.int .i64 b) ∧ Below w.heap.size w w')
    (first
      | ((try go_split_ands); refine ⟨?_, ?_, ?_, ?_, ?_, ?_, ?_, ?_, ?_, ?_⟩ <;> (first | (with_reducible assumption) | (with_reducible refine pw_cell_below hbel ?_; with_reducible assumption) | (with_reducible refine below_step ?_ hbel; with_reducible assumption) | (with_reducible exact below_drew1 (Below.refl _ _)) | go_keep))
      | fail)
    ((go_at_call 64; (with_reducible refine (quad_mix.mix3 _ _ _).mono ?_); rintro e w' ⟨rfl, hbel⟩))
  go_split_ands
  go_wp2
  go_ret
  exact ⟨by simp [i64_w], by assumption⟩

set_option maxHeartbeats 1000000 in
theorem quad_mix.calls (a0_0 : Int) (a0_1 : Int) (a0_2 : Int) (a0_3 : Int) (a0_4 : Int) (a0_5 : Int) (a0_6 : Bool) (a1 : Int) (a2 : Int) (a3 : Int) (r1 : Int) (r2 : Int) (w : World) (h : quad_mix.f a0_0 a0_1 a0_2 a0_3 a0_4 a0_5 a0_6 a1 a2 a3 = some (r1, r2)) :
    Calls Try.prog 53 #[.agg #[.int .i64 a0_0, .int .i64 a0_1, .int .i64 a0_2, .int .i64 a0_3, .int .i64 a0_4, .int .i64 a0_5, .bool a0_6], .int .i64 a1, .int .i64 a2, .int .i64 a3] w fun e w' => e = .returned (.agg #[.int .i64 r1, .int .i64 r2]) ∧ Below w.heap.size w w' := by
  have huP := Try.underlying33
  have huS := Try.underlying37
  unfold quad_mix.f at h
  obtain ⟨rfl, rfl⟩ := Prod.mk.inj (Option.some.inj h)
  clear h
  go_enter Try.func53, Try.ntmps53
  go_wp2_with fail
  (with_reducible refine (quad_mix.mix1x a0_0 a0_1 a0_2 a0_3 a0_4 a0_5 a1 a2 a3 _ _ _ _ _ ?c0 ?c1 ?c2 ?c3 ?c4 ?c5 ?c6 ?c7 ?c8).mono ?_)
  case c0 => go_simp
  case c1 => go_simp
  case c2 => go_simp
  case c3 => go_simp
  case c4 => go_simp
  case c5 => go_simp
  case c6 => go_simp
  case c7 => go_simp
  case c8 => go_simp
  rintro e w1 ⟨rfl, hb1⟩
  have BK1 : w1.heap[w.heap.size + 1 + 1 + 1 + 1]? = some (.cells #[.int .i64 0, .int .i64 0] 33 (0, 0)) := blk_below (Aid.blk_top _ _ _ (by simp)) hb1
  have HB1 : Below w.heap.size w w1 := below_step (by repeat (first | exact Below.refl _ _ | apply below_alloc)) hb1
  go_wp2_with fail
  (with_reducible refine (quad_mix.mix1y a0_0 a0_1 a0_2 a0_3 a0_4 a0_5 a1 a2 a3 _ _ _ _ _ ?d0 ?d1 ?d2 ?d3 ?d4 ?d5 ?d6 ?d7 ?d8).mono ?_)
  case d0 => exact pw_cell_below hb1 (by go_simp)
  case d1 => exact pw_cell_below hb1 (by go_simp)
  case d2 => exact pw_cell_below hb1 (by go_simp)
  case d3 => exact pw_cell_below hb1 (by go_simp)
  case d4 => exact pw_cell_below hb1 (by go_simp)
  case d5 => exact pw_cell_below hb1 (by go_simp)
  case d6 => exact pw_cell_below hb1 (by go_simp)
  case d7 => exact pw_cell_below hb1 (by go_simp)
  case d8 => exact pw_cell_below hb1 (by go_simp)
  rintro e w2 ⟨rfl, hb2⟩
  have BK2 := blk_below BK1 hb2
  have HB2 := below_step HB1 hb2
  clear BK1 HB1 hb1 hb2
  have hs0 : w2.cell? ⟨w.heap.size + 1 + 1 + 1 + 1, 0, none⟩ = some (.int .i64 0) := (blk_cell BK2 0).trans rfl
  have hs1 : w2.cell? ⟨w.heap.size + 1 + 1 + 1 + 1, 1, none⟩ = some (.int .i64 0) := (blk_cell BK2 1).trans rfl
  have hf0 := blk_frozen BK2 0
  have hf1 := blk_frozen BK2 1
  go_wp2
  refine bodyPost_ret (results_cell_row rfl _ _ (w.heap.size + 1 + 1 + 1 + 1) 33 #[(.int .i64 (wrap64 (wrap64 (wrap64 (a1 * a0_0) + wrap64 (a2 * a0_2)) + wrap64 (a3 * a0_4)))), (.int .i64 (wrap64 (wrap64 (wrap64 (a1 * a0_1) + wrap64 (a2 * a0_3)) + wrap64 (a3 * a0_5))))] (0, 0) _ rfl (by refine blk_put (cs := #[(.int .i64 (wrap64 (wrap64 (wrap64 (a1 * a0_0) + wrap64 (a2 * a0_2)) + wrap64 (a3 * a0_4)))), .int .i64 0]) ?_ 1 _ rfl; refine blk_put (cs := #[.int .i64 0, .int .i64 0]) ?_ 0 _ rfl; exact BK2) Try.underlying33 rfl (by kernel_rfl)) rfl ?_
  exact ⟨rfl, below_set (below_set HB2 (by omega)) (by omega)⟩

end Go.Proofs.Ytoghjnmcimniaaa.Q
