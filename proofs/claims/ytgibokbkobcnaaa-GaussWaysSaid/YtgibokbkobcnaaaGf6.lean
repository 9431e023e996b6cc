/- What Go functions answer, as Lean functions, and that they do: written by wip/xprint.py of this session (the kit's printer with turns, texts by hand among them). -/
import Derived.Test.YtgibokbkobcnaaaG0
import Derived.Test.YtgibokbkobcnaaaGd0
import Derived.Test.YtgibokbkobcnaaaGf22
import Derived.Test.YtgibokbkobcnaaaGf14
import Derived.Test.YtgibokbkobcnaaaGf26
import Derived.Test.YtgibokbkobcnaaaGf27
namespace Go.Proofs.Ytgibokbkobcnaaa.G
open Go.RowKit Go.Proofs.YtgibokbkobcnaaaW.PrintWords Go.Proofs.YtgibokbkobcnaaaW.PrintLast Go.Proofs.YtgibokbkobcnaaaW.PrintMore
attribute [local go_sem] max2_int min2_int max_two min_two max_three min_three max_four min_four   -- for this text's walks alone
set_option linter.unusedVariables false
set_option linter.unusedSimpArgs false

/-! ### calamuslaw10_GaussWays: function 6 -/
def calamuslaw10_GaussWays.T10 : Bool × List (List Nat × List Nat) := (true, [([], []), ([], []), ([], []), ([1, 2], [1, 2]), ([3], [3]), ([4], [4]), ([], []), ([], []), ([6, 7], [6, 7]), ([8], [8]), ([9], [9]), ([5, 10], [5, 10]), ([11], [11]), ([0, 12, 11], [0, 12]), ([13, 13, 0, 1, 2, 3, 4, 5, 6, 7, 8, 9, 10, 11, 12, 13], [0, 13])])
def calamuslaw10_GaussWays.B10 : List Nat := [0, 0, 0, 6, 14, 30, 0, 0, 192, 448, 960, 2046, 4094, 8191, 16383]
theorem calamuslaw10_GaussWays.tab10 : rtab .any (opsOf Try.f6 10) = calamuslaw10_GaussWays.T10 := by kernel_rfl
theorem calamuslaw10_GaussWays.bits10 : waitsOk calamuslaw10_GaussWays.T10.2 calamuslaw10_GaussWays.B10 = true := by kernel_rfl
def calamuslaw10_GaussWays.T11 : Bool × List (List Nat × List Nat) := (true, [([], []), ([], []), ([], []), ([], []), ([2, 3], [2, 3]), ([], []), ([5], [5]), ([4, 6], [4, 6]), ([1, 7], [1, 7]), ([8], [8]), ([9], [9]), ([], []), ([], []), ([], []), ([12, 13], [12, 13]), ([], []), ([15], [15]), ([14, 16], [14, 16]), ([11, 17], [11, 17]), ([18], [18]), ([19], [19]), ([10, 20], [10, 20]), ([], []), ([22], [22]), ([], []), ([24], [24]), ([23, 25, 21], [23, 25]), ([21, 26, 26], [21, 26]), ([27], [27]), ([0, 28, 27], [0, 28]), ([29, 29, 0, 1, 2, 3, 4, 5, 6, 7, 8, 9, 10, 11, 12, 13, 14, 15, 16, 17, 18, 19, 20, 21, 22, 23, 24, 25, 26, 27, 28, 29], [0, 29])])
def calamuslaw10_GaussWays.B11 : List Nat := [0, 0, 0, 0, 12, 0, 32, 124, 254, 510, 1022, 0, 0, 0, 12288, 0, 32768, 126976, 260096, 522240, 1046528, 2097150, 0, 4194304, 0, 16777216, 67108862, 134217726, 268435454, 536870911, 1073741823]
theorem calamuslaw10_GaussWays.tab11 : rtab .any (opsOf Try.f6 11) = calamuslaw10_GaussWays.T11 := by kernel_rfl
theorem calamuslaw10_GaussWays.bits11 : waitsOk calamuslaw10_GaussWays.T11.2 calamuslaw10_GaussWays.B11 = true := by kernel_rfl
def calamuslaw10_GaussWays.T12 : Bool × List (List Nat × List Nat) := (true, [([], []), ([], []), ([], []), ([2], [2]), ([3], [3]), ([], []), ([4, 5], [4, 5]), ([1, 6], [1, 6]), ([7], [7]), ([8], [8]), ([], []), ([], []), ([11], [11]), ([12], [12]), ([], []), ([13, 14], [13, 14]), ([10, 15], [10, 15]), ([16], [16]), ([17], [17]), ([9, 18], [9, 18]), ([19], [19]), ([0, 20, 19], [0, 20]), ([21, 21, 0, 1, 2, 3, 4, 5, 6, 7, 8, 9, 10, 11, 12, 13, 14, 15, 16, 17, 18, 19, 20, 21], [0, 21])])
def calamuslaw10_GaussWays.B12 : List Nat := [0, 0, 0, 4, 12, 0, 60, 126, 254, 510, 0, 0, 2048, 6144, 0, 30720, 64512, 130048, 261120, 524286, 1048574, 2097151, 4194303]
theorem calamuslaw10_GaussWays.tab12 : rtab .any (opsOf Try.f6 12) = calamuslaw10_GaussWays.T12 := by kernel_rfl
theorem calamuslaw10_GaussWays.bits12 : waitsOk calamuslaw10_GaussWays.T12.2 calamuslaw10_GaussWays.B12 = true := by kernel_rfl
def calamuslaw10_GaussWays.T18 : Bool × List (List Nat × List Nat) := (true, [([], []), ([], []), ([], []), ([1, 2], [1, 2]), ([0, 3], [0, 3]), ([], []), ([5], [5]), ([6], [6]), ([7], [7]), ([4, 8, 4], [4, 8]), ([9, 9], [9]), ([10], [10]), ([11], [11]), ([11], [11]), ([12, 10, 0, 1, 2, 3, 4, 5, 6, 7, 8, 9, 10, 11, 12], [12]), ([13, 14, 0, 1, 2, 3, 4, 5, 6, 7, 8, 9, 10, 11, 12, 13, 14], [13])])
def calamuslaw10_GaussWays.B18 : List Nat := [0, 0, 0, 6, 15, 0, 32, 96, 224, 511, 1023, 2047, 4095, 4095, 8191, 32767]
theorem calamuslaw10_GaussWays.tab18 : rtab .any (opsOf Try.f6 18) = calamuslaw10_GaussWays.T18 := by kernel_rfl
theorem calamuslaw10_GaussWays.bits18 : waitsOk calamuslaw10_GaussWays.T18.2 calamuslaw10_GaussWays.B18 = true := by kernel_rfl
set_option maxHeartbeats 8000000 in
set_option maxRecDepth 100000 in
theorem calamuslaw10_GaussWays.calls (k : Nat) (A0 : Option Addr) (c0 : Nat) (l0 : List (S44)) (a1_0 : Int) (a1_1 : Int) (a2 : Int) (r : Bool) (w : World) (hr0 : Kd.C k44 w A0 l0.length l0) (hc0 : l0.length ≤ c0) (h : calamuslaw10_GaussWays.f k l0 a1_0 a1_1 a2 = some r) :
    Calls Try.prog 6 #[.slice A0 l0.length c0, .agg #[.int .i32 a1_0, .int .i32 a1_1], .int .u8 a2] w fun e w' => e = .returned (.bool r) ∧ Below w.heap.size w w' := by
  have hix44_0 : ∀ (b o : Nat) (W : World), (Instr.indexAt 44 (.pointer (some ⟨b, o, none⟩)) (.int .i64 0)).run Try.prog W = .ok (.pointer (some ⟨b, o, none⟩)) W := fun _ _ _ => rfl
  have hix44_1 : ∀ (b o : Nat) (W : World), (Instr.indexAt 44 (.pointer (some ⟨b, o, none⟩)) (.int .i64 1)).run Try.prog W = .ok (.pointer (some ⟨b, o + 1, none⟩)) W := fun _ _ _ => rfl
  have hu44 := Try.underlying44
  have hu23 := Try.underlying23
  have HR0 := Aside0.mk hr0
  have HC0 := Aside0.mk hc0
  clear hr0 hc0
  have HB := Aside0.mk (Below.refl w.heap.size w)
  have H : ((calamuslaw10_alive.f k).bind fun t181 => (if t181 = true then (if (l0.length : Int) < 3 then (calamuslaw10_GaussWays.j0 k l0 a2 true a1_0 a1_1) else (calamuslaw10_GaussWays.j0 k l0 a2 (decide ((l0.length : Int) > 1000)) a1_0 a1_1)) else (none))) = some r := h
  clear h
  replace H := Option.bind_eq_some_iff.mp H
  obtain ⟨t181, A40, H⟩ := H
  replace H : (if t181 = true then (if (l0.length : Int) < 3 then (calamuslaw10_GaussWays.j0 k l0 a2 true a1_0 a1_1) else (calamuslaw10_GaussWays.j0 k l0 a2 (decide ((l0.length : Int) > 1000)) a1_0 a1_1)) else (none)) = some r := H
  have A4 := Aside0.mk A40
  clear A40
  by_cases c5 : t181 = true
  · subst c5
    have H1 : (if (l0.length : Int) < 3 then (calamuslaw10_GaussWays.j0 k l0 a2 true a1_0 a1_1) else (calamuslaw10_GaussWays.j0 k l0 a2 (decide ((l0.length : Int) > 1000)) a1_0 a1_1)) = some r := by rw [if_pos rfl] at H; exact H
    clear H
    have H := H1
    clear H1
    have HC6 := Aside0.mk H
    clear H
    go_enter Try.func6, Try.ntmps6
    go_upto_region 3 with (first | ((with_reducible refine gate_dst (N := 4) rfl ?_); (try (refine gate_guard (by rfl) ?_; dsimp only)); refine box_event ?hg (N := 4) ?hd (cs := #[.int .i32 a1_0, .int .i32 a1_1]) (t := 44) ?hr ?_; (case hd => rfl); (case hg => rfl); (case hr => first | (go_simp; done) | (go_simp; rfl)); intro gb180 hg w7 hbox hb; have n0_ := Aside0.mk (below_step (by repeat (first | (with_reducible first | exact HB.out | apply below_alloc | apply pw_below_drewN | apply below_drew1) | exact HB.out)) hb); have n1_ := Aside0.mk (hbox); have n2_ := Aside0.mk ((by rw [hg]; exact (below_size (by repeat (first | (with_reducible first | exact HB.out | apply below_alloc | apply pw_below_drewN | apply below_drew1) | exact HB.out))) : w.heap.size ≤ gb180)); have n3_ := Aside0.mk ((by rw [hg]; exact (below_size (by repeat (first | (with_reducible first | exact HB.out | apply below_alloc | apply pw_below_drewN | apply below_drew1) | exact HB.out))) : w.heap.size ≤ gb180)); clear HB; have HB := n0_; have BK180 := n1_; have GW180 := n2_; have GE180 := n3_; clear n0_ n1_ n2_ n3_; clear hb hbox hg) | ((with_reducible refine gate_callee (f := 14) rfl ?_); refine goesL_ (some 22) rfl rfl Try.func14 (by kernel_rfl) rfl #[] rfl (by (try simp only [List.map_toArray, List.map_cons, List.map_nil]); first | done | rfl | (simp only [List.length_drop, List.length_take]; rfl)) ?_; (with_reducible refine (calamuslaw10_alive.calls k  true _ A4.out).mono ?_); rintro e w8 ⟨rfl, hb⟩; refine ⟨_, rfl, ?_⟩; have n0_ := Aside0.mk (blk_below (g := gb180) (o := .cells #[.int .i32 a1_0, .int .i32 a1_1] 44 (0, 0)) (by (with_reducible repeat (first | refine blk_drewN ?_ _ | refine blk_drew ?_ | refine blk_alloc ?_ _)); exact BK180.out) hb); have n1_ := Aside0.mk (below_step (by repeat (first | (with_reducible first | exact HB.out | apply below_alloc | apply pw_below_drewN | apply below_drew1 | refine below_set ?_ GE180.out) | exact HB.out)) hb); clear BK180; clear HB; have BK180 := n0_; have HB := n1_; clear n0_ n1_; (try clear hb); (try clear hb2); (try clear hk); (try clear hi)))
    (try simp only [Act.put, List.setIfInBounds_toArray, List.set_cons_zero, List.set_cons_succ])
    go_cut [31] (fun v31 wc => ∃ (kq : Nat) (x31_5 : Bool), v31 = .bool x31_5 ∧ Aside0 (calamuslaw10_GaussWays.j0 kq l0 a2 x31_5 a1_0 a1_1 = some r) ∧ Aside0 (kq ≤ k) ∧ Aside0 (wc.heap[gb180]? = some (.cells #[.int .i32 a1_0, .int .i32 a1_1] 44 (0, 0))) ∧ Aside0 (Below w.heap.size w wc))
    case first =>
      have H := HC6.out
      clear HC6
      by_cases c9 : (l0.length : Int) < 3
      · rw [if_pos c9] at H
        have c9b0 : decide ((l0.length : Int) < 3) = true := decide_eq_true c9
        have c9b1 : decide (l0.length < 3) = true := decide_eq_true (by omega)
        clear c9
        (first | rw [c9b0] | (simp only [i64_w, i32_w]; rw [c9b0]) | skip)
        have H' := Aside0.mk H
        clear H
        go_wp2
        go_meet
        case rel => exact ⟨_, (true), (by first | rfl | (simp; done) | (simp [*]; done)), H', ⟨by first | omega | exact Nat.le_refl _⟩, ⟨by (with_reducible repeat (first | refine blk_drewN ?_ _ | refine blk_drew ?_ | refine blk_alloc ?_ _)); exact BK180.out⟩, ⟨by repeat (first | (with_reducible first | exact HB.out | apply below_alloc | apply pw_below_drewN | apply below_drew1 | refine below_set ?_ GE180.out) | exact HB.out)⟩⟩
      · rw [if_neg c9] at H
        have c9b0 : decide ((l0.length : Int) < 3) = false := decide_eq_false c9
        have c9b1 : decide (l0.length < 3) = false := decide_eq_false (by omega)
        clear c9
        (first | rw [c9b0] | (simp only [i64_w, i32_w]; rw [c9b0]) | skip)
        have H' := Aside0.mk H
        clear H
        go_wp2
        go_meet
        case rel => exact ⟨_, (decide ((l0.length : Int) > 1000)), (by first | rfl | (simp; done) | (simp [*]; done)), H', ⟨by first | omega | exact Nat.le_refl _⟩, ⟨by (with_reducible repeat (first | refine blk_drewN ?_ _ | refine blk_drew ?_ | refine blk_alloc ?_ _)); exact BK180.out⟩, ⟨by repeat (first | (with_reducible first | exact HB.out | apply below_alloc | apply pw_below_drewN | apply below_drew1 | refine below_set ?_ GE180.out) | exact HB.out)⟩⟩
    case rest =>
      clear HC6
      try clear c1
      try clear p2
      try clear c5
      try clear c6
      try clear c9
      try clear c9b0
      try clear c9b1
      obtain ⟨kq, x31_5, rfl, HA, HJ5, BK180, HB⟩ := hcut
      cases kq with
      | zero => exact absurd HA.out (by simp [calamuslaw10_GaussWays.j0])
      | succ kj5 =>
        have H := HA.out
        clear HA
        simp only [calamuslaw10_GaussWays.j0] at H
        by_cases c10 : x31_5 = true
        · subst c10
          have H1 : (some true) = some r := by rw [if_pos rfl] at H; exact H
          clear H
          have H := H1
          clear H1
          obtain rfl := Option.some.inj H
          go_wp2
          go_ret
          exact ⟨by first | rfl | (simp [errW_none, errW_some] <;> rfl) | (simp [*, errW_none, errW_some] <;> rfl), by repeat (first | (with_reducible first | exact HB.out | apply below_alloc | apply pw_below_drewN | apply below_drew1 | refine below_set ?_ GE180.out) | exact HB.out)⟩
        · replace c10 := Bool.eq_false_iff.mpr c10
          subst c10
          have H1 : (if (l0.length : Int) = 0 then (none) else (calamuslaw10_GaussWays.l0 kj5 l0 (Int.tmod (wrap64 (a2)) (l0.length : Int)) ([] : List (S23)) ([] : List (S23)) ([] : List (S23)) (l0.length : Int) 0 a1_0 a1_1)) = some r := by rw [if_neg (show ¬ (false = true) by decide)] at H; exact H
          clear H
          have H := H1
          clear H1
          by_cases c11 : (l0.length : Int) = 0
          · rw [if_pos c11] at H
            exact absurd H (by simp)
          · rw [if_neg c11] at H
            have c11b0 : ((l0.length : Int) == 0) = false := beq_eq_false_iff_ne.mpr c11
            have c11b1 : ((l0.length : Int) != 0) = true := bne_iff_ne.mpr c11
            have c11b2 : ¬ (l0 = []) := fun h_ => c11 (by rw [h_]; rfl)
            have H' := Aside0.mk H
            clear H
            go_wp2
            go_loopg [8, 9, 10, 39] kj5 (fun kq v8 v9 v10 v39 w' => ∃ (x8_2 : List (S23)) (x9_2 : List (S23)) (x10_2 : List (S23)) (x39_2 : Int), v39 = .int .i64 x39_2 ∧ Aside0 (calamuslaw10_GaussWays.l0 kq l0 (Int.tmod (wrap64 (a2)) (l0.length : Int)) x8_2 x9_2 x10_2 (l0.length : Int) x39_2 a1_0 a1_1 = some r) ∧ Aside0 (kq ≤ kj5) ∧ Aside0 (Kd.R k23 23 w' w.heap.size (fun k_ => some k_ ≠ (v9 : Value).ownBlock ∧ some k_ ≠ (v10 : Value).ownBlock) v8 x8_2) ∧ Aside0 (Kd.R k23 23 w' w.heap.size (fun k_ => some k_ ≠ (v8 : Value).ownBlock ∧ some k_ ≠ (v10 : Value).ownBlock) v9 x9_2) ∧ Aside0 (Kd.R k23 23 w' w.heap.size (fun k_ => some k_ ≠ (v8 : Value).ownBlock ∧ some k_ ≠ (v9 : Value).ownBlock) v10 x10_2) ∧ Aside0 (w'.heap[gb180]? = some (.cells #[.int .i32 a1_0, .int .i32 a1_1] 44 (0, 0))) ∧ Aside0 (Below w.heap.size w w'))
            case atStart => exact ⟨(([] : List (S23))), (([] : List (S23))), (([] : List (S23))), (0), (by first | rfl | (simp; done) | (simp [*]; done)), H', ⟨Nat.le_refl _⟩, ⟨by first | exact Kd.R_nil _ _ _ _ _ | exact Kd.N_nil _ _ _ _ _ | exact Kd.V_nil _ _ _ _ _ | exact Kd.Q_nil _ _ _ _ _ | exact Kd.S_nil _ _ _ _ _⟩, ⟨by first | exact Kd.R_nil _ _ _ _ _ | exact Kd.N_nil _ _ _ _ _ | exact Kd.V_nil _ _ _ _ _ | exact Kd.Q_nil _ _ _ _ _ | exact Kd.S_nil _ _ _ _ _⟩, ⟨by first | exact Kd.R_nil _ _ _ _ _ | exact Kd.N_nil _ _ _ _ _ | exact Kd.V_nil _ _ _ _ _ | exact Kd.Q_nil _ _ _ _ _ | exact Kd.S_nil _ _ _ _ _⟩, ⟨by (with_reducible repeat (first | refine blk_drewN ?_ _ | refine blk_drew ?_ | refine blk_alloc ?_ _)); exact BK180.out⟩, ⟨by repeat (first | (with_reducible first | exact HB.out | apply below_alloc | apply pw_below_drewN | apply below_drew1 | refine below_set ?_ GE180.out) | exact HB.out)⟩⟩
            case round =>
              clear H'
              try clear c1
              try clear p2
              try clear c5
              try clear c6
              try clear p6
              try clear c9
              try clear c9b0
              try clear c9b1
              try clear c10
              try clear c11
              try clear c11b0
              try clear c11b1
              try clear c11b2
              try clear p2
              obtain ⟨x8_2, x9_2, x10_2, x39_2, rfl, HA, HK2, HO_8, HO_9, HO_10, BK180, HB⟩ := hrel
              cases gk with
              | zero => exact absurd HA.out (by simp [calamuslaw10_GaussWays.l0])
              | succ k2 =>
                have H := HA.out
                clear HA
                simp only [calamuslaw10_GaussWays.l0] at H
                by_cases c12 : x39_2 < (l0.length : Int)
                · rw [if_pos c12] at H
                  have c12b0 : decide (x39_2 < (l0.length : Int)) = true := decide_eq_true c12
                  clear c12
                  by_cases c13 : 0 ≤ x39_2
                  · rw [if_pos c13] at H
                    have c13b0 : decide (0 ≤ x39_2) = true := decide_eq_true c13
                    clear c13
                    by_cases c14 : x39_2 < (l0.length : Int)
                    · rw [if_pos c14] at H
                      have c14b0 : decide (x39_2 < (l0.length : Int)) = true := decide_eq_true c14
                      clear c14
                      replace H := Option.bind_eq_some_iff.mp H
                      obtain ⟨⟨t184, t185⟩, A150, H⟩ := H
                      replace H : ((some (([(⟨t184, t185⟩ : S23)] : List (S23)) : List (S23))).bind fun y186 => (if x8_2.length + y186.length < 8796093022208 then (if (l0.length : Int) = 0 then (none) else (if 0 ≤ (Int.tmod (wrap64 (x39_2 + (Int.tmod (wrap64 (a2)) (l0.length : Int)))) (l0.length : Int)) then (if (Int.tmod (wrap64 (x39_2 + (Int.tmod (wrap64 (a2)) (l0.length : Int)))) (l0.length : Int)) < (l0.length : Int) then ((calamuslaw10_small.f ((rd_T44 l0 (Int.tmod (wrap64 (x39_2 + (Int.tmod (wrap64 (a2)) (l0.length : Int)))) (l0.length : Int))).f0) ((rd_T44 l0 (Int.tmod (wrap64 (x39_2 + (Int.tmod (wrap64 (a2)) (l0.length : Int)))) (l0.length : Int))).f1)).bind fun bt194 => ((calamuslaw10_small.f a1_0 a1_1).bind fun bt196 => ((calamusref10_More.f bt194.1 bt194.2 bt196.1 bt196.2).bind fun bt198 => ((some (([(⟨bt198.1, bt198.2⟩ : S23)] : List (S23)) : List (S23))).bind fun y200 => (if x9_2.length + y200.length < 8796093022208 then (if 0 ≤ (wrap64 ((wrap64 ((l0.length : Int) - 1)) - x39_2)) then (if (wrap64 ((wrap64 ((l0.length : Int) - 1)) - x39_2)) < (l0.length : Int) then ((calamuslaw10_small.f ((rd_T44 l0 (wrap64 ((wrap64 ((l0.length : Int) - 1)) - x39_2))).f0) ((rd_T44 l0 (wrap64 ((wrap64 ((l0.length : Int) - 1)) - x39_2))).f1)).bind fun bt208 => ((some (([(⟨bt208.1, bt208.2⟩ : S23)] : List (S23)) : List (S23))).bind fun y210 => (if x10_2.length + y210.length < 8796093022208 then (calamuslaw10_GaussWays.l0 k2 l0 (Int.tmod (wrap64 (a2)) (l0.length : Int)) (x8_2 ++ y186) (x9_2 ++ y200) (x10_2 ++ y210) (l0.length : Int) (wrap64 (x39_2 + 1)) a1_0 a1_1) else (none)))) else (none)) else (none)) else (none)))))) else (none)) else (none))) else (none))) = some r := H
                      have A15 := Aside0.mk A150
                      clear A150
                      obtain ⟨y186, hy186⟩ : ∃ y_ : List (S23), y_ = (([(⟨t184, t185⟩ : S23)] : List (S23))) := ⟨_, rfl⟩
                      replace H : (if x8_2.length + y186.length < 8796093022208 then (if (l0.length : Int) = 0 then (none) else (if 0 ≤ (Int.tmod (wrap64 (x39_2 + (Int.tmod (wrap64 (a2)) (l0.length : Int)))) (l0.length : Int)) then (if (Int.tmod (wrap64 (x39_2 + (Int.tmod (wrap64 (a2)) (l0.length : Int)))) (l0.length : Int)) < (l0.length : Int) then ((calamuslaw10_small.f ((rd_T44 l0 (Int.tmod (wrap64 (x39_2 + (Int.tmod (wrap64 (a2)) (l0.length : Int)))) (l0.length : Int))).f0) ((rd_T44 l0 (Int.tmod (wrap64 (x39_2 + (Int.tmod (wrap64 (a2)) (l0.length : Int)))) (l0.length : Int))).f1)).bind fun bt194 => ((calamuslaw10_small.f a1_0 a1_1).bind fun bt196 => ((calamusref10_More.f bt194.1 bt194.2 bt196.1 bt196.2).bind fun bt198 => ((some (([(⟨bt198.1, bt198.2⟩ : S23)] : List (S23)) : List (S23))).bind fun y200 => (if x9_2.length + y200.length < 8796093022208 then (if 0 ≤ (wrap64 ((wrap64 ((l0.length : Int) - 1)) - x39_2)) then (if (wrap64 ((wrap64 ((l0.length : Int) - 1)) - x39_2)) < (l0.length : Int) then ((calamuslaw10_small.f ((rd_T44 l0 (wrap64 ((wrap64 ((l0.length : Int) - 1)) - x39_2))).f0) ((rd_T44 l0 (wrap64 ((wrap64 ((l0.length : Int) - 1)) - x39_2))).f1)).bind fun bt208 => ((some (([(⟨bt208.1, bt208.2⟩ : S23)] : List (S23)) : List (S23))).bind fun y210 => (if x10_2.length + y210.length < 8796093022208 then (calamuslaw10_GaussWays.l0 k2 l0 (Int.tmod (wrap64 (a2)) (l0.length : Int)) (x8_2 ++ y186) (x9_2 ++ y200) (x10_2 ++ y210) (l0.length : Int) (wrap64 (x39_2 + 1)) a1_0 a1_1) else (none)))) else (none)) else (none)) else (none)))))) else (none)) else (none))) else (none)) = some r := by first | (rw [hy186]; with_reducible exact H) | (have H2_ := (Option.bind_some _ _).symm.trans H; rw [hy186]; with_reducible exact H2_) | (have H2_ := (Option.bind_some _ _).symm.trans H; with_reducible exact H2_) | with_reducible exact H | (rw [hy186]; exact H) | exact H
                      have Ny186 := Aside0.mk hy186
                      clear hy186
                      by_cases c16 : x8_2.length + y186.length < 8796093022208
                      · rw [if_pos c16] at H
                        have LMc16 := Aside0.mk c16
                        clear c16
                        obtain ⟨y189, hy189⟩ : ∃ y_ : List (S23), y_ = (x8_2 ++ y186) := ⟨_, rfl⟩
                        replace H : (if (l0.length : Int) = 0 then (none) else (if 0 ≤ (Int.tmod (wrap64 (x39_2 + (Int.tmod (wrap64 (a2)) (l0.length : Int)))) (l0.length : Int)) then (if (Int.tmod (wrap64 (x39_2 + (Int.tmod (wrap64 (a2)) (l0.length : Int)))) (l0.length : Int)) < (l0.length : Int) then ((calamuslaw10_small.f ((rd_T44 l0 (Int.tmod (wrap64 (x39_2 + (Int.tmod (wrap64 (a2)) (l0.length : Int)))) (l0.length : Int))).f0) ((rd_T44 l0 (Int.tmod (wrap64 (x39_2 + (Int.tmod (wrap64 (a2)) (l0.length : Int)))) (l0.length : Int))).f1)).bind fun bt194 => ((calamuslaw10_small.f a1_0 a1_1).bind fun bt196 => ((calamusref10_More.f bt194.1 bt194.2 bt196.1 bt196.2).bind fun bt198 => ((some (([(⟨bt198.1, bt198.2⟩ : S23)] : List (S23)) : List (S23))).bind fun y200 => (if x9_2.length + y200.length < 8796093022208 then (if 0 ≤ (wrap64 ((wrap64 ((l0.length : Int) - 1)) - x39_2)) then (if (wrap64 ((wrap64 ((l0.length : Int) - 1)) - x39_2)) < (l0.length : Int) then ((calamuslaw10_small.f ((rd_T44 l0 (wrap64 ((wrap64 ((l0.length : Int) - 1)) - x39_2))).f0) ((rd_T44 l0 (wrap64 ((wrap64 ((l0.length : Int) - 1)) - x39_2))).f1)).bind fun bt208 => ((some (([(⟨bt208.1, bt208.2⟩ : S23)] : List (S23)) : List (S23))).bind fun y210 => (if x10_2.length + y210.length < 8796093022208 then (calamuslaw10_GaussWays.l0 k2 l0 (Int.tmod (wrap64 (a2)) (l0.length : Int)) y189 (x9_2 ++ y200) (x10_2 ++ y210) (l0.length : Int) (wrap64 (x39_2 + 1)) a1_0 a1_1) else (none)))) else (none)) else (none)) else (none)))))) else (none)) else (none))) = some r := by first | (rw [hy189]; with_reducible exact H) | (have H2_ := (Option.bind_some _ _).symm.trans H; rw [hy189]; with_reducible exact H2_) | (have H2_ := (Option.bind_some _ _).symm.trans H; with_reducible exact H2_) | with_reducible exact H | (rw [hy189]; exact H) | exact H
                        have Ny189 := Aside0.mk hy189
                        clear hy189
                        by_cases c17 : (l0.length : Int) = 0
                        · rw [if_pos c17] at H
                          exact absurd H (by simp)
                        · rw [if_neg c17] at H
                          have c17b0 : ((l0.length : Int) == 0) = false := beq_eq_false_iff_ne.mpr c17
                          have c17b1 : ((l0.length : Int) != 0) = true := bne_iff_ne.mpr c17
                          have c17b2 : ¬ (l0 = []) := fun h_ => c17 (by rw [h_]; rfl)
                          obtain ⟨ji18, hji18⟩ : ∃ j_ : Int, (Int.tmod (wrap64 (x39_2 + (Int.tmod (wrap64 (a2)) (l0.length : Int)))) (l0.length : Int)) = j_ := ⟨_, rfl⟩
                          replace H : (if 0 ≤ (ji18) then (if (ji18) < (l0.length : Int) then ((calamuslaw10_small.f ((rd_T44 l0 (ji18)).f0) ((rd_T44 l0 (ji18)).f1)).bind fun bt194 => ((calamuslaw10_small.f a1_0 a1_1).bind fun bt196 => ((calamusref10_More.f bt194.1 bt194.2 bt196.1 bt196.2).bind fun bt198 => ((some (([(⟨bt198.1, bt198.2⟩ : S23)] : List (S23)) : List (S23))).bind fun y200 => (if x9_2.length + y200.length < 8796093022208 then (if 0 ≤ (wrap64 ((wrap64 ((l0.length : Int) - 1)) - x39_2)) then (if (wrap64 ((wrap64 ((l0.length : Int) - 1)) - x39_2)) < (l0.length : Int) then ((calamuslaw10_small.f ((rd_T44 l0 (wrap64 ((wrap64 ((l0.length : Int) - 1)) - x39_2))).f0) ((rd_T44 l0 (wrap64 ((wrap64 ((l0.length : Int) - 1)) - x39_2))).f1)).bind fun bt208 => ((some (([(⟨bt208.1, bt208.2⟩ : S23)] : List (S23)) : List (S23))).bind fun y210 => (if x10_2.length + y210.length < 8796093022208 then (calamuslaw10_GaussWays.l0 k2 l0 (Int.tmod (wrap64 (a2)) (l0.length : Int)) y189 (x9_2 ++ y200) (x10_2 ++ y210) (l0.length : Int) (wrap64 (x39_2 + 1)) a1_0 a1_1) else (none)))) else (none)) else (none)) else (none)))))) else (none)) else (none)) = some r := by first | (rw [hji18] at H; exact H) | (simp only [hji18] at H ⊢; exact H)
                          (try rw [hji18] at A15)
                          by_cases c19 : 0 ≤ (ji18)
                          · rw [if_pos c19] at H
                            have c19b0 : decide (0 ≤ (ji18)) = true := decide_eq_true c19
                            clear c19
                            by_cases c20 : (ji18) < (l0.length : Int)
                            · rw [if_pos c20] at H
                              have c20b0 : decide ((ji18) < (l0.length : Int)) = true := decide_eq_true c20
                              clear c20
                              replace H := Option.bind_eq_some_iff.mp H
                              obtain ⟨⟨t194, t195⟩, A210, H⟩ := H
                              replace H : ((calamuslaw10_small.f a1_0 a1_1).bind fun bt196 => ((calamusref10_More.f t194 t195 bt196.1 bt196.2).bind fun bt198 => ((some (([(⟨bt198.1, bt198.2⟩ : S23)] : List (S23)) : List (S23))).bind fun y200 => (if x9_2.length + y200.length < 8796093022208 then (if 0 ≤ (wrap64 ((wrap64 ((l0.length : Int) - 1)) - x39_2)) then (if (wrap64 ((wrap64 ((l0.length : Int) - 1)) - x39_2)) < (l0.length : Int) then ((calamuslaw10_small.f ((rd_T44 l0 (wrap64 ((wrap64 ((l0.length : Int) - 1)) - x39_2))).f0) ((rd_T44 l0 (wrap64 ((wrap64 ((l0.length : Int) - 1)) - x39_2))).f1)).bind fun bt208 => ((some (([(⟨bt208.1, bt208.2⟩ : S23)] : List (S23)) : List (S23))).bind fun y210 => (if x10_2.length + y210.length < 8796093022208 then (calamuslaw10_GaussWays.l0 k2 l0 (Int.tmod (wrap64 (a2)) (l0.length : Int)) y189 (x9_2 ++ y200) (x10_2 ++ y210) (l0.length : Int) (wrap64 (x39_2 + 1)) a1_0 a1_1) else (none)))) else (none)) else (none)) else (none))))) = some r := H
                              have A21 := Aside0.mk A210
                              clear A210
                              replace H := Option.bind_eq_some_iff.mp H
                              obtain ⟨⟨t196, t197⟩, A220, H⟩ := H
                              replace H : ((calamusref10_More.f t194 t195 t196 t197).bind fun bt198 => ((some (([(⟨bt198.1, bt198.2⟩ : S23)] : List (S23)) : List (S23))).bind fun y200 => (if x9_2.length + y200.length < 8796093022208 then (if 0 ≤ (wrap64 ((wrap64 ((l0.length : Int) - 1)) - x39_2)) then (if (wrap64 ((wrap64 ((l0.length : Int) - 1)) - x39_2)) < (l0.length : Int) then ((calamuslaw10_small.f ((rd_T44 l0 (wrap64 ((wrap64 ((l0.length : Int) - 1)) - x39_2))).f0) ((rd_T44 l0 (wrap64 ((wrap64 ((l0.length : Int) - 1)) - x39_2))).f1)).bind fun bt208 => ((some (([(⟨bt208.1, bt208.2⟩ : S23)] : List (S23)) : List (S23))).bind fun y210 => (if x10_2.length + y210.length < 8796093022208 then (calamuslaw10_GaussWays.l0 k2 l0 (Int.tmod (wrap64 (a2)) (l0.length : Int)) y189 (x9_2 ++ y200) (x10_2 ++ y210) (l0.length : Int) (wrap64 (x39_2 + 1)) a1_0 a1_1) else (none)))) else (none)) else (none)) else (none)))) = some r := H
                              have A22 := Aside0.mk A220
                              clear A220
                              replace H := Option.bind_eq_some_iff.mp H
                              obtain ⟨⟨t198, t199⟩, A230, H⟩ := H
                              replace H : ((some (([(⟨t198, t199⟩ : S23)] : List (S23)) : List (S23))).bind fun y200 => (if x9_2.length + y200.length < 8796093022208 then (if 0 ≤ (wrap64 ((wrap64 ((l0.length : Int) - 1)) - x39_2)) then (if (wrap64 ((wrap64 ((l0.length : Int) - 1)) - x39_2)) < (l0.length : Int) then ((calamuslaw10_small.f ((rd_T44 l0 (wrap64 ((wrap64 ((l0.length : Int) - 1)) - x39_2))).f0) ((rd_T44 l0 (wrap64 ((wrap64 ((l0.length : Int) - 1)) - x39_2))).f1)).bind fun bt208 => ((some (([(⟨bt208.1, bt208.2⟩ : S23)] : List (S23)) : List (S23))).bind fun y210 => (if x10_2.length + y210.length < 8796093022208 then (calamuslaw10_GaussWays.l0 k2 l0 (Int.tmod (wrap64 (a2)) (l0.length : Int)) y189 (x9_2 ++ y200) (x10_2 ++ y210) (l0.length : Int) (wrap64 (x39_2 + 1)) a1_0 a1_1) else (none)))) else (none)) else (none)) else (none))) = some r := H
                              have A23 := Aside0.mk A230
                              clear A230
                              obtain ⟨y200, hy200⟩ : ∃ y_ : List (S23), y_ = (([(⟨t198, t199⟩ : S23)] : List (S23))) := ⟨_, rfl⟩
                              replace H : (if x9_2.length + y200.length < 8796093022208 then (if 0 ≤ (wrap64 ((wrap64 ((l0.length : Int) - 1)) - x39_2)) then (if (wrap64 ((wrap64 ((l0.length : Int) - 1)) - x39_2)) < (l0.length : Int) then ((calamuslaw10_small.f ((rd_T44 l0 (wrap64 ((wrap64 ((l0.length : Int) - 1)) - x39_2))).f0) ((rd_T44 l0 (wrap64 ((wrap64 ((l0.length : Int) - 1)) - x39_2))).f1)).bind fun bt208 => ((some (([(⟨bt208.1, bt208.2⟩ : S23)] : List (S23)) : List (S23))).bind fun y210 => (if x10_2.length + y210.length < 8796093022208 then (calamuslaw10_GaussWays.l0 k2 l0 (Int.tmod (wrap64 (a2)) (l0.length : Int)) y189 (x9_2 ++ y200) (x10_2 ++ y210) (l0.length : Int) (wrap64 (x39_2 + 1)) a1_0 a1_1) else (none)))) else (none)) else (none)) else (none)) = some r := by first | (rw [hy200]; with_reducible exact H) | (have H2_ := (Option.bind_some _ _).symm.trans H; rw [hy200]; with_reducible exact H2_) | (have H2_ := (Option.bind_some _ _).symm.trans H; with_reducible exact H2_) | with_reducible exact H | (rw [hy200]; exact H) | exact H
                              have Ny200 := Aside0.mk hy200
                              clear hy200
                              by_cases c24 : x9_2.length + y200.length < 8796093022208
                              · rw [if_pos c24] at H
                                have LMc24 := Aside0.mk c24
                                clear c24
                                obtain ⟨y203, hy203⟩ : ∃ y_ : List (S23), y_ = (x9_2 ++ y200) := ⟨_, rfl⟩
                                replace H : (if 0 ≤ (wrap64 ((wrap64 ((l0.length : Int) - 1)) - x39_2)) then (if (wrap64 ((wrap64 ((l0.length : Int) - 1)) - x39_2)) < (l0.length : Int) then ((calamuslaw10_small.f ((rd_T44 l0 (wrap64 ((wrap64 ((l0.length : Int) - 1)) - x39_2))).f0) ((rd_T44 l0 (wrap64 ((wrap64 ((l0.length : Int) - 1)) - x39_2))).f1)).bind fun bt208 => ((some (([(⟨bt208.1, bt208.2⟩ : S23)] : List (S23)) : List (S23))).bind fun y210 => (if x10_2.length + y210.length < 8796093022208 then (calamuslaw10_GaussWays.l0 k2 l0 (Int.tmod (wrap64 (a2)) (l0.length : Int)) y189 y203 (x10_2 ++ y210) (l0.length : Int) (wrap64 (x39_2 + 1)) a1_0 a1_1) else (none)))) else (none)) else (none)) = some r := by first | (rw [hy203]; with_reducible exact H) | (have H2_ := (Option.bind_some _ _).symm.trans H; rw [hy203]; with_reducible exact H2_) | (have H2_ := (Option.bind_some _ _).symm.trans H; with_reducible exact H2_) | with_reducible exact H | (rw [hy203]; exact H) | exact H
                                have Ny203 := Aside0.mk hy203
                                clear hy203
                                obtain ⟨ji25, hji25⟩ : ∃ j_ : Int, (wrap64 ((wrap64 ((l0.length : Int) - 1)) - x39_2)) = j_ := ⟨_, rfl⟩
                                replace H : (if 0 ≤ (ji25) then (if (ji25) < (l0.length : Int) then ((calamuslaw10_small.f ((rd_T44 l0 (ji25)).f0) ((rd_T44 l0 (ji25)).f1)).bind fun bt208 => ((some (([(⟨bt208.1, bt208.2⟩ : S23)] : List (S23)) : List (S23))).bind fun y210 => (if x10_2.length + y210.length < 8796093022208 then (calamuslaw10_GaussWays.l0 k2 l0 (Int.tmod (wrap64 (a2)) (l0.length : Int)) y189 y203 (x10_2 ++ y210) (l0.length : Int) (wrap64 (x39_2 + 1)) a1_0 a1_1) else (none)))) else (none)) else (none)) = some r := by first | (rw [hji25] at H; exact H) | (simp only [hji25] at H ⊢; exact H)
                                (try rw [hji25] at A15)
                                (try rw [hji25] at A21)
                                (try rw [hji25] at A22)
                                (try rw [hji25] at A23)
                                have hji25w : (IntKind.i64.wrap ((wrap64 ((l0.length : Int) - 1)) - x39_2)) = ji25 := (i64_w _).trans hji25
                                by_cases c26 : 0 ≤ (ji25)
                                · rw [if_pos c26] at H
                                  have c26b0 : decide (0 ≤ (ji25)) = true := decide_eq_true c26
                                  clear c26
                                  by_cases c27 : (ji25) < (l0.length : Int)
                                  · rw [if_pos c27] at H
                                    have c27b0 : decide ((ji25) < (l0.length : Int)) = true := decide_eq_true c27
                                    clear c27
                                    replace H := Option.bind_eq_some_iff.mp H
                                    obtain ⟨⟨t208, t209⟩, A280, H⟩ := H
                                    replace H : ((some (([(⟨t208, t209⟩ : S23)] : List (S23)) : List (S23))).bind fun y210 => (if x10_2.length + y210.length < 8796093022208 then (calamuslaw10_GaussWays.l0 k2 l0 (Int.tmod (wrap64 (a2)) (l0.length : Int)) y189 y203 (x10_2 ++ y210) (l0.length : Int) (wrap64 (x39_2 + 1)) a1_0 a1_1) else (none))) = some r := H
                                    have A28 := Aside0.mk A280
                                    clear A280
                                    obtain ⟨y210, hy210⟩ : ∃ y_ : List (S23), y_ = (([(⟨t208, t209⟩ : S23)] : List (S23))) := ⟨_, rfl⟩
                                    replace H : (if x10_2.length + y210.length < 8796093022208 then (calamuslaw10_GaussWays.l0 k2 l0 (Int.tmod (wrap64 (a2)) (l0.length : Int)) y189 y203 (x10_2 ++ y210) (l0.length : Int) (wrap64 (x39_2 + 1)) a1_0 a1_1) else (none)) = some r := by first | (rw [hy210]; with_reducible exact H) | (have H2_ := (Option.bind_some _ _).symm.trans H; rw [hy210]; with_reducible exact H2_) | (have H2_ := (Option.bind_some _ _).symm.trans H; with_reducible exact H2_) | with_reducible exact H | (rw [hy210]; exact H) | exact H
                                    have Ny210 := Aside0.mk hy210
                                    clear hy210
                                    by_cases c29 : x10_2.length + y210.length < 8796093022208
                                    · rw [if_pos c29] at H
                                      have LMc29 := Aside0.mk c29
                                      clear c29
                                      obtain ⟨y213, hy213⟩ : ∃ y_ : List (S23), y_ = (x10_2 ++ y210) := ⟨_, rfl⟩
                                      replace H : (calamuslaw10_GaussWays.l0 k2 l0 (Int.tmod (wrap64 (a2)) (l0.length : Int)) y189 y203 y213 (l0.length : Int) (wrap64 (x39_2 + 1)) a1_0 a1_1) = some r := by first | (rw [hy213]; with_reducible exact H) | (have H2_ := (Option.bind_some _ _).symm.trans H; rw [hy213]; with_reducible exact H2_) | (have H2_ := (Option.bind_some _ _).symm.trans H; with_reducible exact H2_) | with_reducible exact H | (rw [hy213]; exact H) | exact H
                                      have Ny213 := Aside0.mk hy213
                                      clear hy213
                                      have H' := Aside0.mk H
                                      clear H
                                      try go_wp2
                                      have n0_ := Aside0.mk (Kd.R_drew HO_8.out)
                                      have n1_ := Aside0.mk (Kd.R_drew HO_9.out)
                                      have n2_ := Aside0.mk (Kd.R_drew HO_10.out)
                                      have n3_ := Aside0.mk (blk_drew BK180.out)
                                      have n4_ := Aside0.mk (below_drew1 HB.out)
                                      clear HO_8
                                      clear HO_9
                                      clear HO_10
                                      clear BK180
                                      clear HB
                                      have HO_8 := n0_
                                      have HO_9 := n1_
                                      have HO_10 := n2_
                                      have BK180 := n3_
                                      have HB := n4_
                                      clear n0_ n1_ n2_ n3_ n4_
                                      have p182 : 0 ≤ (x39_2 : Int) := of_decide_eq_true (by first | (with_reducible assumption) | assumption)
                                      have q182 : x39_2 < (l0.length : Int) := of_decide_eq_true (by first | (with_reducible assumption) | assumption)
                                      obtain ⟨ad182, e182, hx182_0, hx182_1⟩ := at_T44 HR0.out x39_2 p182 q182
                                      have hw182_1 := hx182_1
                                      have hw182_0 := hx182_0
                                      cases e182
                                      replace hx182_0 := (HB.out.cell (World.block_lt_of_cell? w _ hx182_0)).trans hx182_0
                                      replace hx182_1 := (HB.out.cell (World.block_lt_of_cell? w _ hx182_1)).trans hx182_1
                                      replace p182 := eq_true p182
                                      replace q182 := eq_true q182
                                      have p183 : 0 ≤ (x39_2 : Int) := of_decide_eq_true (by first | (with_reducible assumption) | assumption)
                                      have q183 : x39_2 < (l0.length : Int) := of_decide_eq_true (by first | (with_reducible assumption) | assumption)
                                      obtain ⟨ad183, e183, hx183_0, hx183_1⟩ := at_T44 HR0.out x39_2 p183 q183
                                      have hw183_1 := hx183_1
                                      have hw183_0 := hx183_0
                                      obtain rfl : ad182 = ad183 := (by injection e183)
                                      replace hx183_0 := (HB.out.cell (World.block_lt_of_cell? w _ hx183_0)).trans hx183_0
                                      replace hx183_1 := (HB.out.cell (World.block_lt_of_cell? w _ hx183_1)).trans hx183_1
                                      replace p183 := eq_true p183
                                      replace q183 := eq_true q183
                                      refine start_ (n := 15) (S := fun w' => w'.cell? (ad182.add ((x39_2).toNat * 2)) = some (.int .i32 ((rd_T44 l0 x39_2).f0)) ∧ w'.cell? ⟨(ad182.add ((x39_2).toNat * 2)).block, (ad182.add ((x39_2).toNat * 2)).off + 1, none⟩ = some (.int .i32 ((rd_T44 l0 x39_2).f1)) ∧ w'.cell? (ad182.add ((x39_2).toNat * 2)) = some (.int .i32 ((rd_T44 l0 x39_2).f0)) ∧ w'.cell? ⟨(ad182.add ((x39_2).toNat * 2)).block, (ad182.add ((x39_2).toNat * 2)).off + 1, none⟩ = some (.int .i32 ((rd_T44 l0 x39_2).f1))) (ds := []) #[false, false, false, false, false, false, false, false, false, false, false, false, false, false, false] (by kernel_rfl) rfl rfl ⟨((HB.out.cell (World.block_lt_of_cell? w _ hw182_0)).trans hw182_0), ((HB.out.cell (World.block_lt_of_cell? w _ hw182_1)).trans hw182_1), ((HB.out.cell (World.block_lt_of_cell? w _ hw183_0)).trans hw183_0), ((HB.out.cell (World.block_lt_of_cell? w _ hw183_1)).trans hw183_1)⟩ (fun hHeld => ?_); refine with_tabW calamuslaw10_GaussWays.tab10 calamuslaw10_GaussWays.bits10 (fun HT_ HW_ => ?_)
                                      generalize wr.drew = w30 at HO_8 HO_9 HO_10 BK180 HB hx182_0 hx182_1 hx183_0 hx183_1 hHeld ⊢
                                      refine pure_ (i := 0) (N := some 42) (v := ?_) (a' := ?_) #[true, false, false, false, false, false, false, false, false, false, false, false, false, false, false] rfl rfl (any_of HT_.out (by kernel_rfl)) (fun _ _ _ h => h) (Or.inl ⟨by rfl, ?_⟩) ?_ ?_
                                      rotate_left
                                      · intro w'
                                        go_simp
                                        with_reducible rfl
                                      rotate_left
                                      · simp only [Act.put, List.setIfInBounds_toArray, List.set_cons_zero, List.set_cons_succ, i64_w, i32_w]
                                        rfl
                                      refine pure_ (i := 1) (N := some 43) (v := ?_) (a' := ?_) #[true, true, false, false, false, false, false, false, false, false, false, false, false, false, false] rfl rfl (any_of HT_.out (by kernel_rfl)) (fun _ _ _ h => h) (Or.inl ⟨by rfl, ?_⟩) ?_ ?_
                                      rotate_left
                                      · intro w'
                                        go_simp
                                        with_reducible rfl
                                      rotate_left
                                      · simp only [Act.put, List.setIfInBounds_toArray, List.set_cons_zero, List.set_cons_succ, i64_w, i32_w]
                                        rfl
                                      refine pure_ (i := 2) (N := some 44) (v := ?_) (a' := ?_) #[true, true, true, false, false, false, false, false, false, false, false, false, false, false, false] rfl rfl (any_of HT_.out (by kernel_rfl)) (fun _ _ _ h => h) (Or.inl ⟨by rfl, ?_⟩) ?_ ?_
                                      rotate_left
                                      · intro w'
                                        go_simp
                                        with_reducible rfl
                                      rotate_left
                                      · simp only [Act.put, List.setIfInBounds_toArray, List.set_cons_zero, List.set_cons_succ, i64_w, i32_w]
                                        rfl
                                      refine pure_ (i := 3) (N := some 45) (v := ?_) (a' := ?_) #[true, true, true, true, false, false, false, false, false, false, false, false, false, false, false] rfl rfl (any_of HT_.out (by kernel_rfl)) (fun _ _ _ h => h) (Or.inl ⟨by rfl, ?_⟩) ?_ ?_
                                      rotate_left
                                      · intro w'
                                        go_simp
                                        with_reducible rfl
                                      rotate_left
                                      · simp only [Act.put, List.setIfInBounds_toArray, List.set_cons_zero, List.set_cons_succ, i64_w, i32_w]
                                        rfl
                                      refine pure_ (i := 4) (N := some 46) (v := ?_) (a' := ?_) #[true, true, true, true, true, false, false, false, false, false, false, false, false, false, false] rfl rfl (any_of HT_.out (by kernel_rfl)) (fun _ _ _ h => h) (Or.inl ⟨by rfl, ?_⟩) ?_ ?_
                                      rotate_left
                                      · intro w'
                                        go_simp
                                        with_reducible rfl
                                      rotate_left
                                      · simp only [Act.put, List.setIfInBounds_toArray, List.set_cons_zero, List.set_cons_succ, i64_w, i32_w]
                                        rfl
                                      refine pure_ (i := 6) (N := some 48) (v := ?_) (a' := ?_) #[true, true, true, true, true, false, true, false, false, false, false, false, false, false, false] rfl rfl (any_of HT_.out (by kernel_rfl)) (fun _ _ _ h => h) (Or.inl ⟨by rfl, ?_⟩) ?_ ?_
                                      rotate_left
                                      · intro w'
                                        go_simp
                                        with_reducible rfl
                                      rotate_left
                                      · simp only [Act.put, List.setIfInBounds_toArray, List.set_cons_zero, List.set_cons_succ, i64_w, i32_w]
                                        rfl
                                      refine pure_ (i := 7) (N := some 49) (v := ?_) (a' := ?_) #[true, true, true, true, true, false, true, true, false, false, false, false, false, false, false] rfl rfl (any_of HT_.out (by kernel_rfl)) (fun _ _ _ h => h) (Or.inl ⟨by rfl, ?_⟩) ?_ ?_
                                      rotate_left
                                      · intro w'
                                        go_simp
                                        with_reducible rfl
                                      rotate_left
                                      · simp only [Act.put, List.setIfInBounds_toArray, List.set_cons_zero, List.set_cons_succ, i64_w, i32_w]
                                        rfl
                                      refine pure_ (i := 8) (N := some 50) (v := ?_) (a' := ?_) #[true, true, true, true, true, false, true, true, true, false, false, false, false, false, false] rfl rfl (any_of HT_.out (by kernel_rfl)) (fun _ _ _ h => h) (Or.inl ⟨by rfl, ?_⟩) ?_ ?_
                                      rotate_left
                                      · intro w'
                                        go_simp
                                        with_reducible rfl
                                      rotate_left
                                      · simp only [Act.put, List.setIfInBounds_toArray, List.set_cons_zero, List.set_cons_succ, i64_w, i32_w]
                                        rfl
                                      refine pure_ (i := 9) (N := some 51) (v := ?_) (a' := ?_) #[true, true, true, true, true, false, true, true, true, true, false, false, false, false, false] rfl rfl (any_of HT_.out (by kernel_rfl)) (fun _ _ _ h => h) (Or.inl ⟨by rfl, ?_⟩) ?_ ?_
                                      rotate_left
                                      · intro w'
                                        go_simp
                                        with_reducible rfl
                                      rotate_left
                                      · simp only [Act.put, List.setIfInBounds_toArray, List.set_cons_zero, List.set_cons_succ, i64_w, i32_w]
                                        rfl
                                      refine take_ (i := 5) (N := some 47) (v := ?_) (a' := ?_) #[true, true, true, true, true, true, true, true, true, true, false, false, false, false, false] rfl rfl (take_ofW HT_.out HW_.out (by kernel_rfl)) (fun _ _ _ h => h) (Or.inl ⟨by rfl, ?_⟩) hHeld ?_ ?_
                                      rotate_left
                                      · rintro w' ⟨s0, s1, s2, s3⟩
                                        go_simp
                                        with_reducible rfl
                                      rotate_left
                                      · simp only [Act.put, List.setIfInBounds_toArray, List.set_cons_zero, List.set_cons_succ, i64_w, i32_w]
                                        rfl
                                      refine take_ (i := 10) (N := some 52) (v := ?_) (a' := ?_) #[true, true, true, true, true, true, true, true, true, true, true, false, false, false, false] rfl rfl (take_ofW HT_.out HW_.out (by kernel_rfl)) (fun _ _ _ h => h) (Or.inl ⟨by rfl, ?_⟩) hHeld ?_ ?_
                                      rotate_left
                                      · rintro w' ⟨s0, s1, s2, s3⟩
                                        go_simp
                                        with_reducible rfl
                                      rotate_left
                                      · simp only [Act.put, List.setIfInBounds_toArray, List.set_cons_zero, List.set_cons_succ, i64_w, i32_w]
                                        rfl
                                      refine one_ (i := 11) (N := some 53) #[true, true, true, true, true, true, true, true, true, true, true, true, false, false, false] rfl rfl (one_of HT_.out (by kernel_rfl)) (by decide) (fun K hK => ?_)
                                      refine goes_ Try.func26 (by kernel_rfl) rfl #[.int .i32 ((rd_T44 l0 x39_2).f0), .int .i32 ((rd_T44 l0 x39_2).f1)] (by rfl) rfl rfl (by (try simp only [List.map_toArray, List.map_cons, List.map_nil]); first | done | rfl | (simp only [List.length_drop, List.length_take]; rfl)) ?_
                                      with_reducible refine (calamuslaw10_small.calls ((rd_T44 l0 x39_2).f0) ((rd_T44 l0 x39_2).f1) t184 t185 _ A15.out).mono ?_
                                      rintro e w31 ⟨rfl, hb⟩
                                      refine ⟨_, rfl, ?_⟩
                                      have n0_ := Aside0.mk (Kd.R_below (by (with_reducible repeat (first | apply Kd.R_alloc | apply Kd.R_drewN | apply Kd.R_drew)); exact HO_8.out) hb)
                                      have n1_ := Aside0.mk (Kd.R_below (by (with_reducible repeat (first | apply Kd.R_alloc | apply Kd.R_drewN | apply Kd.R_drew)); exact HO_9.out) hb)
                                      have n2_ := Aside0.mk (Kd.R_below (by (with_reducible repeat (first | apply Kd.R_alloc | apply Kd.R_drewN | apply Kd.R_drew)); exact HO_10.out) hb)
                                      have n3_ := Aside0.mk (blk_below (g := gb180) (o := .cells #[.int .i32 a1_0, .int .i32 a1_1] 44 (0, 0)) (by (with_reducible repeat (first | refine blk_drewN ?_ _ | refine blk_drew ?_ | refine blk_alloc ?_ _)); exact BK180.out) hb)
                                      have n4_ := Aside0.mk (below_step (by repeat (first | (with_reducible first | exact HB.out | apply below_alloc | apply pw_below_drewN | apply below_drew1 | refine below_set ?_ GE180.out) | exact HB.out)) hb)
                                      clear HO_8
                                      clear HO_9
                                      clear HO_10
                                      clear BK180
                                      clear HB
                                      have HO_8 := n0_
                                      have HO_9 := n1_
                                      have HO_10 := n2_
                                      have BK180 := n3_
                                      have HB := n4_
                                      clear n0_ n1_ n2_ n3_ n4_
                                      (try clear hb)
                                      (try clear hb2)
                                      (try clear hk)
                                      (try clear hi)
                                      refine hK.out _ _ ⟨((HB.out.cell (World.block_lt_of_cell? w _ hw182_0)).trans hw182_0), ((HB.out.cell (World.block_lt_of_cell? w _ hw182_1)).trans hw182_1), ((HB.out.cell (World.block_lt_of_cell? w _ hw183_0)).trans hw183_0), ((HB.out.cell (World.block_lt_of_cell? w _ hw183_1)).trans hw183_1)⟩ (fun hHeld => ?_)
                                      clear hK K
                                      refine norm_ (a' := ?_) ?_ ?_
                                      rotate_left
                                      · show Act.put _ (some 53) _ = _
                                        simp only [Act.put, List.setIfInBounds_toArray, List.set_cons_zero, List.set_cons_succ, i64_w, i32_w]
                                        rfl
                                      refine one_ (i := 12) (N := some 54) #[true, true, true, true, true, true, true, true, true, true, true, true, true, false, false] rfl rfl (one_of HT_.out (by kernel_rfl)) (by decide) (fun K hK => ?_)
                                      refine Kd.R_lit_step k23 _ 23 ?hg (N := 54) ?hd (xs := ([(⟨t184, t185⟩ : S23)] : List (S23))) (inner := [.int .i64 t184, .int .i64 t185]) (ok := fun _ => True) (okp := fun _ => True) ?hr ?hp (fun _ hk => hk) trivial (Below.refl _ _) (Nat.le_refl _) (by simp) ?_; (case hd => rfl); (case hg => rfl); (case hr => first | (go_simp; done) | (go_simp; rfl)); (case hp => exact (Reps.c2 (show Kd.M k23 _ _ _ (⟨t184, t185⟩ : S23) [.int .i64 t184, .int .i64 t185] from (k23_mkM _ _ _ (⟨t184, t185⟩ : S23) )) (Reps.none _ _)))
                                      intro v187 w32 ho33 hb hg_ hnew_
                                      clear hg_ hnew_
                                      (first | rw [← Ny186.out] at ho33 | (simp only [Int.reduceToNat] at ho33; rw [← Ny186.out] at ho33))
                                      have n0_ := Aside0.mk (Kd.R_elder' (by (with_reducible repeat (first | apply Kd.R_alloc | apply Kd.R_drewN | apply Kd.R_drew)); exact HO_8.out) (Kd.R_base ho33) hb)
                                      have n1_ := Aside0.mk (Kd.R_elder' (by (with_reducible repeat (first | apply Kd.R_alloc | apply Kd.R_drewN | apply Kd.R_drew)); exact HO_9.out) (Kd.R_base ho33) hb)
                                      have n2_ := Aside0.mk (Kd.R_elder' (by (with_reducible repeat (first | apply Kd.R_alloc | apply Kd.R_drewN | apply Kd.R_drew)); exact HO_10.out) (Kd.R_base ho33) hb)
                                      have n3_ := Aside0.mk (Kd.R_lower (Kd.R_new' (Kd.R_new' (Kd.R_new' ho33 (Kd.R_lt (by (with_reducible repeat (first | apply Kd.R_alloc | apply Kd.R_drewN | apply Kd.R_drew)); exact HO_8.out))) (Kd.R_lt (by (with_reducible repeat (first | apply Kd.R_alloc | apply Kd.R_drewN | apply Kd.R_drew)); exact HO_9.out))) (Kd.R_lt (by (with_reducible repeat (first | apply Kd.R_alloc | apply Kd.R_drewN | apply Kd.R_drew)); exact HO_10.out))) (below_size (by repeat (first | (with_reducible first | exact HB.out | apply below_alloc | apply pw_below_drewN | apply below_drew1 | refine below_set ?_ GE180.out) | exact HB.out))))
                                      have n4_ := Aside0.mk (blk_below (g := gb180) (o := .cells #[.int .i32 a1_0, .int .i32 a1_1] 44 (0, 0)) (by (with_reducible repeat (first | refine blk_drewN ?_ _ | refine blk_drew ?_ | refine blk_alloc ?_ _)); exact BK180.out) hb)
                                      have n5_ := Aside0.mk (below_step (by repeat (first | (with_reducible first | exact HB.out | apply below_alloc | apply pw_below_drewN | apply below_drew1 | refine below_set ?_ GE180.out) | exact HB.out)) hb)
                                      clear HO_8
                                      clear HO_9
                                      clear HO_10
                                      clear BK180
                                      clear HB
                                      have HO_8 := n0_
                                      have HO_9 := n1_
                                      have HO_10 := n2_
                                      have HO188 := n3_
                                      have BK180 := n4_
                                      have HB := n5_
                                      clear n0_ n1_ n2_ n3_ n4_ n5_
                                      clear hb ho33
                                      obtain ⟨Ao35, co35, eo35⟩ := Kd.R_slice HO188.out
                                      (first | subst eo35 | (injection eo35 with f1_ f2_ f3_; have f4_ := f1_.symm; have f5_ := f3_.symm; clear f1_ f2_ f3_; subst f4_; subst f5_))
                                      refine hK.out _ _ ⟨((HB.out.cell (World.block_lt_of_cell? w _ hw182_0)).trans hw182_0), ((HB.out.cell (World.block_lt_of_cell? w _ hw182_1)).trans hw182_1), ((HB.out.cell (World.block_lt_of_cell? w _ hw183_0)).trans hw183_0), ((HB.out.cell (World.block_lt_of_cell? w _ hw183_1)).trans hw183_1)⟩ (fun hHeld => ?_)
                                      clear hK K
                                      refine norm_ (a' := ?_) ?_ ?_
                                      rotate_left
                                      · show Act.put _ (some 54) _ = _
                                        simp only [Act.put, List.setIfInBounds_toArray, List.set_cons_zero, List.set_cons_succ, i64_w, i32_w]
                                        rfl
                                      refine one_ (i := 13) (N := some 55) #[true, true, true, true, true, true, true, true, true, true, true, true, true, true, false] rfl rfl (one_of HT_.out (by kernel_rfl)) (by decide) (fun K hK => ?_)
                                      refine Kd.R_append_rows_step k23 (w0 := w) w.heap.size (by rfl) (.tmp 42) (.tmp 54) 34 23 (.agg #[(.int .i64 0), (.int .i64 0)]) 16 rfl Try.underlying34 info23 rfl (by decide) (by omega) u8 x8_2 y186 _ _ _ (fun k_ => some k_ ≠ (u9 : Value).ownBlock ∧ some k_ ≠ (u10 : Value).ownBlock ∧ some k_ ≠ (.slice Ao35 y186.length co35 : Value).ownBlock) (fun _ => False) rfl rfl ?aO ?aR (fun _ _ h => h) (fun _ h => h.elim) ?aF ?aB ?aS ?aL ?_
                                      (case aR => repeat (first | exact (Kd.R_reads' HO188.out).2.2 | (with_reducible refine Kd.C_alloc ?_ _) | (with_reducible refine Kd.C_drewN ?_ _) | (with_reducible refine Kd.C_drew ?_)))
                                      (case aB => exact (by repeat (first | (with_reducible first | exact HB.out | apply below_alloc | apply pw_below_drewN | apply below_drew1 | refine below_set ?_ GE180.out) | exact HB.out)))
                                      (case aF => exact (fun k_ hk => ⟨Kd.fresh' (Kd.R_lt (by (with_reducible repeat (first | apply Kd.R_alloc | apply Kd.R_drewN | apply Kd.R_drew)); exact HO_9.out)) k_ hk, Kd.fresh' (Kd.R_lt (by (with_reducible repeat (first | apply Kd.R_alloc | apply Kd.R_drewN | apply Kd.R_drew)); exact HO_10.out)) k_ hk, Kd.fresh' (Kd.R_lt (by (with_reducible repeat (first | apply Kd.R_alloc | apply Kd.R_drewN | apply Kd.R_drew)); exact HO188.out)) k_ hk⟩))
                                      (case aO => exact (by (with_reducible repeat (first | apply Kd.R_alloc | apply Kd.R_drewN | apply Kd.R_drew)); exact Kd.R_mono HO_8.out (fun _ hk => ⟨hk.1.1, ⟨hk.1.2, hk.2⟩⟩)))
                                      (case aS => exact (below_size (by repeat (first | (with_reducible first | exact HB.out | apply below_alloc | apply pw_below_drewN | apply below_drew1 | refine below_set ?_ GE180.out) | exact HB.out))))
                                      (case aL => have := LMc16.out; omega)
                                      intro v190 w34 ho hb hg hat
                                      rw [← Ny189.out] at ho
                                      have n0_ := Aside0.mk (Kd.R_after (ok := (fun k_ => some k_ ≠ (u10 : Value).ownBlock ∧ some k_ ≠ (.slice Ao35 y186.length co35 : Value).ownBlock)) (by (with_reducible repeat (first | apply Kd.R_alloc | apply Kd.R_drewN | apply Kd.R_drew)); exact Kd.R_mono HO_9.out (fun _ hk => ⟨⟨hk.1.2, hk.2⟩, hk.1.1⟩)) hg hat)
                                      have n1_ := Aside0.mk (Kd.R_after (ok := (fun k_ => some k_ ≠ (u9 : Value).ownBlock ∧ some k_ ≠ (.slice Ao35 y186.length co35 : Value).ownBlock)) (by (with_reducible repeat (first | apply Kd.R_alloc | apply Kd.R_drewN | apply Kd.R_drew)); exact Kd.R_mono HO_10.out (fun _ hk => ⟨⟨hk.1.2, hk.2⟩, hk.1.1⟩)) hg hat)
                                      have n2_ := Aside0.mk (blk_grown (g := gb180) (o := .cells #[.int .i32 a1_0, .int .i32 a1_1] 44 (0, 0)) (by (with_reducible repeat (first | refine blk_drewN ?_ _ | refine blk_drew ?_ | refine blk_alloc ?_ _)); exact BK180.out) hg (Kd.R_ne HO_8.out BK180.out (by decide)))
                                      have n3_ := Aside0.mk (Kd.R_after (ok := (fun k_ => some k_ ≠ (u9 : Value).ownBlock ∧ some k_ ≠ (u10 : Value).ownBlock)) (by (with_reducible repeat (first | apply Kd.R_alloc | apply Kd.R_drewN | apply Kd.R_drew)); exact Kd.R_mono HO188.out (fun _ hk => ⟨⟨hk.1.2, hk.2⟩, hk.1.1.2⟩)) hg hat)
                                      have n4_ := Aside0.mk (hb)
                                      have n5_ := Aside0.mk (ho)
                                      clear HO_9
                                      clear HO_10
                                      clear BK180
                                      clear HO188
                                      clear HB
                                      clear HO_8
                                      have HO_9 := n0_
                                      have HO_10 := n1_
                                      have BK180 := n2_
                                      have HO188 := n3_
                                      have HB := n4_
                                      have HO191 := n5_
                                      clear n0_ n1_ n2_ n3_ n4_ n5_
                                      clear ho hb hg hat
                                      refine hK.out _ _ ⟨((HB.out.cell (World.block_lt_of_cell? w _ hw182_0)).trans hw182_0), ((HB.out.cell (World.block_lt_of_cell? w _ hw182_1)).trans hw182_1), ((HB.out.cell (World.block_lt_of_cell? w _ hw183_0)).trans hw183_0), ((HB.out.cell (World.block_lt_of_cell? w _ hw183_1)).trans hw183_1)⟩ (fun hHeld => ?_)
                                      clear hK K
                                      refine norm_ (a' := ?_) ?_ ?_
                                      rotate_left
                                      · show Act.put _ (some 55) _ = _
                                        simp only [Act.put, List.setIfInBounds_toArray, List.set_cons_zero, List.set_cons_succ, i64_w, i32_w]
                                        rfl
                                      refine pure_ (i := 14) (N := some 8) (v := ?_) (a' := ?_) #[true, true, true, true, true, true, true, true, true, true, true, true, true, true, true] rfl rfl (any_of HT_.out (by kernel_rfl)) (fun _ _ _ h => h) (Or.inl ⟨by rfl, ?_⟩) ?_ ?_
                                      rotate_left
                                      · intro w'
                                        go_simp
                                        with_reducible rfl
                                      rotate_left
                                      · simp only [Act.put, List.setIfInBounds_toArray, List.set_cons_zero, List.set_cons_succ, i64_w, i32_w]
                                        rfl
                                      refine done_ (done_of HT_.out (by kernel_rfl)) ?_
                                      try go_wp2
                                      have n0_ := Aside0.mk (Kd.R_drew HO_9.out)
                                      have n1_ := Aside0.mk (Kd.R_drew HO_10.out)
                                      have n2_ := Aside0.mk (Kd.R_drew HO188.out)
                                      have n3_ := Aside0.mk (Kd.R_drew HO191.out)
                                      have n4_ := Aside0.mk (blk_drew BK180.out)
                                      have n5_ := Aside0.mk (below_drew1 HB.out)
                                      clear HO_9
                                      clear HO_10
                                      clear HO188
                                      clear HO191
                                      clear BK180
                                      clear HB
                                      have HO_9 := n0_
                                      have HO_10 := n1_
                                      have HO188 := n2_
                                      have HO191 := n3_
                                      have BK180 := n4_
                                      have HB := n5_
                                      clear n0_ n1_ n2_ n3_ n4_ n5_
                                      have p192 : 0 ≤ ((ji18) : Int) := of_decide_eq_true (by first | (with_reducible assumption) | assumption)
                                      have q192 : (ji18) < (l0.length : Int) := of_decide_eq_true (by first | (with_reducible assumption) | assumption)
                                      obtain ⟨ad192, e192, hx192_0, hx192_1⟩ := at_T44 HR0.out (ji18) p192 q192
                                      have hw192_1 := hx192_1
                                      have hw192_0 := hx192_0
                                      obtain rfl : ad182 = ad192 := (by injection e192)
                                      replace hx192_0 := (HB.out.cell (World.block_lt_of_cell? w _ hx192_0)).trans hx192_0
                                      replace hx192_1 := (HB.out.cell (World.block_lt_of_cell? w _ hx192_1)).trans hx192_1
                                      replace p192 := eq_true p192
                                      replace q192 := eq_true q192
                                      have p193 : 0 ≤ ((ji18) : Int) := of_decide_eq_true (by first | (with_reducible assumption) | assumption)
                                      have q193 : (ji18) < (l0.length : Int) := of_decide_eq_true (by first | (with_reducible assumption) | assumption)
                                      obtain ⟨ad193, e193, hx193_0, hx193_1⟩ := at_T44 HR0.out (ji18) p193 q193
                                      have hw193_1 := hx193_1
                                      have hw193_0 := hx193_0
                                      obtain rfl : ad182 = ad193 := (by injection e193)
                                      replace hx193_0 := (HB.out.cell (World.block_lt_of_cell? w _ hx193_0)).trans hx193_0
                                      replace hx193_1 := (HB.out.cell (World.block_lt_of_cell? w _ hx193_1)).trans hx193_1
                                      replace p193 := eq_true p193
                                      replace q193 := eq_true q193
                                      refine start_ (n := 31) (S := fun w' => w'.cell? ⟨gb180, 0, none⟩ = some (.int .i32 a1_0) ∧ w'.cell? ⟨gb180, 1, none⟩ = some (.int .i32 a1_1) ∧ w'.cell? (ad182.add (((ji18)).toNat * 2)) = some (.int .i32 ((rd_T44 l0 (ji18)).f0)) ∧ w'.cell? ⟨(ad182.add (((ji18)).toNat * 2)).block, (ad182.add (((ji18)).toNat * 2)).off + 1, none⟩ = some (.int .i32 ((rd_T44 l0 (ji18)).f1)) ∧ w'.cell? (ad182.add (((ji18)).toNat * 2)) = some (.int .i32 ((rd_T44 l0 (ji18)).f0)) ∧ w'.cell? ⟨(ad182.add (((ji18)).toNat * 2)).block, (ad182.add (((ji18)).toNat * 2)).off + 1, none⟩ = some (.int .i32 ((rd_T44 l0 (ji18)).f1))) (ds := []) #[false, false, false, false, false, false, false, false, false, false, false, false, false, false, false, false, false, false, false, false, false, false, false, false, false, false, false, false, false, false, false] (by kernel_rfl) rfl rfl ⟨(blk_cell BK180.out 0).trans rfl, (blk_cell BK180.out 1).trans rfl, ((HB.out.cell (World.block_lt_of_cell? w _ hw192_0)).trans hw192_0), ((HB.out.cell (World.block_lt_of_cell? w _ hw192_1)).trans hw192_1), ((HB.out.cell (World.block_lt_of_cell? w _ hw193_0)).trans hw193_0), ((HB.out.cell (World.block_lt_of_cell? w _ hw193_1)).trans hw193_1)⟩ (fun hHeld => ?_); refine with_tabW calamuslaw10_GaussWays.tab11 calamuslaw10_GaussWays.bits11 (fun HT_ HW_ => ?_)
                                      generalize w34.drew = w36 at HO_9 HO_10 HO188 HO191 BK180 HB hx192_0 hx192_1 hx193_0 hx193_1 hHeld ⊢
                                      refine pure_ (i := 0) (N := some 56) (v := ?_) (a' := ?_) #[true, false, false, false, false, false, false, false, false, false, false, false, false, false, false, false, false, false, false, false, false, false, false, false, false, false, false, false, false, false, false] rfl rfl (any_of HT_.out (by kernel_rfl)) (fun _ _ _ h => h) (Or.inl ⟨by rfl, ?_⟩) ?_ ?_
                                      rotate_left
                                      · intro w'
                                        go_simp
                                        with_reducible rfl
                                      rotate_left
                                      · simp only [Act.put, List.setIfInBounds_toArray, List.set_cons_zero, List.set_cons_succ, i64_w, i32_w]
                                        rfl
                                      refine pure_ (i := 1) (N := some 57) (v := ?_) (a' := ?_) #[true, true, false, false, false, false, false, false, false, false, false, false, false, false, false, false, false, false, false, false, false, false, false, false, false, false, false, false, false, false, false] rfl rfl (any_of HT_.out (by kernel_rfl)) (fun _ _ _ h => h) (Or.inl ⟨by rfl, ?_⟩) ?_ ?_
                                      rotate_left
                                      · intro w'
                                        go_simp
                                        with_reducible rfl
                                      rotate_left
                                      · simp only [Act.put, List.setIfInBounds_toArray, List.set_cons_zero, List.set_cons_succ, i64_w, i32_w]
                                        rfl
                                      refine pure_ (i := 2) (N := some 58) (v := ?_) (a' := ?_) #[true, true, true, false, false, false, false, false, false, false, false, false, false, false, false, false, false, false, false, false, false, false, false, false, false, false, false, false, false, false, false] rfl rfl (any_of HT_.out (by kernel_rfl)) (fun _ _ _ h => h) (Or.inl ⟨by rfl, ?_⟩) ?_ ?_
                                      rotate_left
                                      · intro w'
                                        go_simp
                                        with_reducible rfl
                                      rotate_left
                                      · simp only [Act.put, List.setIfInBounds_toArray, List.set_cons_zero, List.set_cons_succ, i64_w, i32_w]
                                        rfl
                                      refine pure_ (i := 3) (N := some 59) (v := ?_) (a' := ?_) #[true, true, true, true, false, false, false, false, false, false, false, false, false, false, false, false, false, false, false, false, false, false, false, false, false, false, false, false, false, false, false] rfl rfl (any_of HT_.out (by kernel_rfl)) (fun _ _ _ h => h) (Or.inl ⟨by rfl, ?_⟩) ?_ ?_
                                      rotate_left
                                      · intro w'
                                        go_simp
                                        with_reducible rfl
                                      rotate_left
                                      · simp only [Act.put, List.setIfInBounds_toArray, List.set_cons_zero, List.set_cons_succ, i64_w, i32_w]
                                        rfl
                                      refine pure_ (i := 4) (N := some 60) (v := ?_) (a' := ?_) #[true, true, true, true, true, false, false, false, false, false, false, false, false, false, false, false, false, false, false, false, false, false, false, false, false, false, false, false, false, false, false] rfl rfl (any_of HT_.out (by kernel_rfl)) (fun _ _ _ h => h) (Or.inl ⟨by rfl, ?_⟩) ?_ ?_
                                      rotate_left
                                      · intro w'
                                        go_simp
                                        with_reducible rfl
                                      rotate_left
                                      · simp only [Act.put, List.setIfInBounds_toArray, List.set_cons_zero, List.set_cons_succ, i64_w, i32_w]
                                        rfl
                                      refine pure_ (i := 5) (N := some 61) (v := ?_) (a' := ?_) #[true, true, true, true, true, true, false, false, false, false, false, false, false, false, false, false, false, false, false, false, false, false, false, false, false, false, false, false, false, false, false] rfl rfl (any_of HT_.out (by kernel_rfl)) (fun _ _ _ h => h) (Or.inl ⟨by rfl, ?_⟩) ?_ ?_
                                      rotate_left
                                      · intro w'
                                        go_simp
                                        with_reducible rfl
                                      rotate_left
                                      · simp only [Act.put, List.setIfInBounds_toArray, List.set_cons_zero, List.set_cons_succ, i64_w, i32_w]
                                        rfl
                                      refine pure_ (i := 6) (N := some 62) (v := ?_) (a' := ?_) #[true, true, true, true, true, true, true, false, false, false, false, false, false, false, false, false, false, false, false, false, false, false, false, false, false, false, false, false, false, false, false] rfl rfl (any_of HT_.out (by kernel_rfl)) (fun _ _ _ h => h) (Or.inl ⟨by rfl, ?_⟩) ?_ ?_
                                      rotate_left
                                      · intro w'
                                        go_simp
                                        with_reducible rfl
                                      rotate_left
                                      · simp only [Act.put, List.setIfInBounds_toArray, List.set_cons_zero, List.set_cons_succ, i64_w, i32_w]
                                        rfl
                                      refine pure_ (i := 7) (N := some 63) (v := ?_) (a' := ?_) #[true, true, true, true, true, true, true, true, false, false, false, false, false, false, false, false, false, false, false, false, false, false, false, false, false, false, false, false, false, false, false] rfl rfl (any_of HT_.out (by kernel_rfl)) (fun _ _ _ h => h) (Or.inl ⟨by rfl, ?_⟩) ?_ ?_
                                      rotate_left
                                      · intro w'
                                        go_simp
                                        with_reducible rfl
                                      rotate_left
                                      · simp only [Act.put, List.setIfInBounds_toArray, List.set_cons_zero, List.set_cons_succ, i64_w, i32_w]
                                        rfl
                                      refine pure_ (i := 8) (N := some 64) (v := ?_) (a' := ?_) #[true, true, true, true, true, true, true, true, true, false, false, false, false, false, false, false, false, false, false, false, false, false, false, false, false, false, false, false, false, false, false] rfl rfl (any_of HT_.out (by kernel_rfl)) (fun _ _ _ h => h) (Or.inl ⟨by rfl, ?_⟩) ?_ ?_
                                      rotate_left
                                      · intro w'
                                        go_simp
                                        with_reducible rfl
                                      rotate_left
                                      · simp only [Act.put, List.setIfInBounds_toArray, List.set_cons_zero, List.set_cons_succ, i64_w, i32_w]
                                        rfl
                                      refine pure_ (i := 9) (N := some 65) (v := ?_) (a' := ?_) #[true, true, true, true, true, true, true, true, true, true, false, false, false, false, false, false, false, false, false, false, false, false, false, false, false, false, false, false, false, false, false] rfl rfl (any_of HT_.out (by kernel_rfl)) (fun _ _ _ h => h) (Or.inl ⟨by rfl, ?_⟩) ?_ ?_
                                      rotate_left
                                      · intro w'
                                        go_simp
                                        with_reducible rfl
                                      rotate_left
                                      · simp only [Act.put, List.setIfInBounds_toArray, List.set_cons_zero, List.set_cons_succ, i64_w, i32_w]
                                        rfl
                                      refine pure_ (i := 11) (N := some 67) (v := ?_) (a' := ?_) #[true, true, true, true, true, true, true, true, true, true, false, true, false, false, false, false, false, false, false, false, false, false, false, false, false, false, false, false, false, false, false] rfl rfl (any_of HT_.out (by kernel_rfl)) (fun _ _ _ h => h) (Or.inl ⟨by rfl, ?_⟩) ?_ ?_
                                      rotate_left
                                      · intro w'
                                        go_simp
                                        with_reducible rfl
                                      rotate_left
                                      · simp only [Act.put, List.setIfInBounds_toArray, List.set_cons_zero, List.set_cons_succ, i64_w, i32_w]
                                        rfl
                                      refine pure_ (i := 12) (N := some 68) (v := ?_) (a' := ?_) #[true, true, true, true, true, true, true, true, true, true, false, true, true, false, false, false, false, false, false, false, false, false, false, false, false, false, false, false, false, false, false] rfl rfl (any_of HT_.out (by kernel_rfl)) (fun _ _ _ h => h) (Or.inl ⟨by rfl, ?_⟩) ?_ ?_
                                      rotate_left
                                      · intro w'
                                        go_simp
                                        with_reducible rfl
                                      rotate_left
                                      · simp only [Act.put, List.setIfInBounds_toArray, List.set_cons_zero, List.set_cons_succ, i64_w, i32_w]
                                        rfl
                                      refine pure_ (i := 13) (N := some 69) (v := ?_) (a' := ?_) #[true, true, true, true, true, true, true, true, true, true, false, true, true, true, false, false, false, false, false, false, false, false, false, false, false, false, false, false, false, false, false] rfl rfl (any_of HT_.out (by kernel_rfl)) (fun _ _ _ h => h) (Or.inl ⟨by rfl, ?_⟩) ?_ ?_
                                      rotate_left
                                      · intro w'
                                        go_simp
                                        with_reducible rfl
                                      rotate_left
                                      · simp only [Act.put, List.setIfInBounds_toArray, List.set_cons_zero, List.set_cons_succ, i64_w, i32_w]
                                        rfl
                                      refine pure_ (i := 14) (N := some 70) (v := ?_) (a' := ?_) #[true, true, true, true, true, true, true, true, true, true, false, true, true, true, true, false, false, false, false, false, false, false, false, false, false, false, false, false, false, false, false] rfl rfl (any_of HT_.out (by kernel_rfl)) (fun _ _ _ h => h) (Or.inl ⟨by rfl, ?_⟩) ?_ ?_
                                      rotate_left
                                      · intro w'
                                        go_simp
                                        with_reducible rfl
                                      rotate_left
                                      · simp only [Act.put, List.setIfInBounds_toArray, List.set_cons_zero, List.set_cons_succ, i64_w, i32_w]
                                        rfl
                                      refine pure_ (i := 15) (N := some 71) (v := ?_) (a' := ?_) #[true, true, true, true, true, true, true, true, true, true, false, true, true, true, true, true, false, false, false, false, false, false, false, false, false, false, false, false, false, false, false] rfl rfl (any_of HT_.out (by kernel_rfl)) (fun _ _ _ h => h) (Or.inl ⟨by rfl, ?_⟩) ?_ ?_
                                      rotate_left
                                      · intro w'
                                        go_simp
                                        with_reducible rfl
                                      rotate_left
                                      · simp only [Act.put, List.setIfInBounds_toArray, List.set_cons_zero, List.set_cons_succ, i64_w, i32_w]
                                        rfl
                                      refine pure_ (i := 16) (N := some 72) (v := ?_) (a' := ?_) #[true, true, true, true, true, true, true, true, true, true, false, true, true, true, true, true, true, false, false, false, false, false, false, false, false, false, false, false, false, false, false] rfl rfl (any_of HT_.out (by kernel_rfl)) (fun _ _ _ h => h) (Or.inl ⟨by rfl, ?_⟩) ?_ ?_
                                      rotate_left
                                      · intro w'
                                        go_simp
                                        with_reducible rfl
                                      rotate_left
                                      · simp only [Act.put, List.setIfInBounds_toArray, List.set_cons_zero, List.set_cons_succ, i64_w, i32_w]
                                        rfl
                                      refine pure_ (i := 17) (N := some 73) (v := ?_) (a' := ?_) #[true, true, true, true, true, true, true, true, true, true, false, true, true, true, true, true, true, true, false, false, false, false, false, false, false, false, false, false, false, false, false] rfl rfl (any_of HT_.out (by kernel_rfl)) (fun _ _ _ h => h) (Or.inl ⟨by rfl, ?_⟩) ?_ ?_
                                      rotate_left
                                      · intro w'
                                        go_simp
                                        with_reducible rfl
                                      rotate_left
                                      · simp only [Act.put, List.setIfInBounds_toArray, List.set_cons_zero, List.set_cons_succ, i64_w, i32_w]
                                        rfl
                                      refine pure_ (i := 18) (N := some 74) (v := ?_) (a' := ?_) #[true, true, true, true, true, true, true, true, true, true, false, true, true, true, true, true, true, true, true, false, false, false, false, false, false, false, false, false, false, false, false] rfl rfl (any_of HT_.out (by kernel_rfl)) (fun _ _ _ h => h) (Or.inl ⟨by rfl, ?_⟩) ?_ ?_
                                      rotate_left
                                      · intro w'
                                        go_simp
                                        with_reducible rfl
                                      rotate_left
                                      · simp only [Act.put, List.setIfInBounds_toArray, List.set_cons_zero, List.set_cons_succ, i64_w, i32_w]
                                        rfl
                                      refine pure_ (i := 19) (N := some 75) (v := ?_) (a' := ?_) #[true, true, true, true, true, true, true, true, true, true, false, true, true, true, true, true, true, true, true, true, false, false, false, false, false, false, false, false, false, false, false] rfl rfl (any_of HT_.out (by kernel_rfl)) (fun _ _ _ h => h) (Or.inl ⟨by rfl, ?_⟩) ?_ ?_
                                      rotate_left
                                      · intro w'
                                        go_simp
                                        with_reducible rfl
                                      rotate_left
                                      · simp only [Act.put, List.setIfInBounds_toArray, List.set_cons_zero, List.set_cons_succ, i64_w, i32_w]
                                        rfl
                                      refine pure_ (i := 22) (N := some 78) (v := ?_) (a' := ?_) #[true, true, true, true, true, true, true, true, true, true, false, true, true, true, true, true, true, true, true, true, false, false, true, false, false, false, false, false, false, false, false] rfl rfl (any_of HT_.out (by kernel_rfl)) (fun _ _ _ h => h) (Or.inl ⟨by rfl, ?_⟩) ?_ ?_
                                      rotate_left
                                      · intro w'
                                        go_simp
                                        with_reducible rfl
                                      rotate_left
                                      · simp only [Act.put, List.setIfInBounds_toArray, List.set_cons_zero, List.set_cons_succ, i64_w, i32_w]
                                        rfl
                                      refine pure_ (i := 24) (N := some 80) (v := ?_) (a' := ?_) #[true, true, true, true, true, true, true, true, true, true, false, true, true, true, true, true, true, true, true, true, false, false, true, false, true, false, false, false, false, false, false] rfl rfl (any_of HT_.out (by kernel_rfl)) (fun _ _ _ h => h) (Or.inl ⟨by rfl, ?_⟩) ?_ ?_
                                      rotate_left
                                      · intro w'
                                        go_simp
                                        with_reducible rfl
                                      rotate_left
                                      · simp only [Act.put, List.setIfInBounds_toArray, List.set_cons_zero, List.set_cons_succ, i64_w, i32_w]
                                        rfl
                                      refine take_ (i := 10) (N := some 66) (v := ?_) (a' := ?_) #[true, true, true, true, true, true, true, true, true, true, true, true, true, true, true, true, true, true, true, true, false, false, true, false, true, false, false, false, false, false, false] rfl rfl (take_ofW HT_.out HW_.out (by kernel_rfl)) (fun _ _ _ h => h) (Or.inl ⟨by rfl, ?_⟩) hHeld ?_ ?_
                                      rotate_left
                                      · rintro w' ⟨s0, s1, s2, s3, s4, s5⟩
                                        go_simp
                                        with_reducible rfl
                                      rotate_left
                                      · simp only [Act.put, List.setIfInBounds_toArray, List.set_cons_zero, List.set_cons_succ, i64_w, i32_w]
                                        rfl
                                      refine take_ (i := 20) (N := some 76) (v := ?_) (a' := ?_) #[true, true, true, true, true, true, true, true, true, true, true, true, true, true, true, true, true, true, true, true, true, false, true, false, true, false, false, false, false, false, false] rfl rfl (take_ofW HT_.out HW_.out (by kernel_rfl)) (fun _ _ _ h => h) (Or.inl ⟨by rfl, ?_⟩) hHeld ?_ ?_
                                      rotate_left
                                      · rintro w' ⟨s0, s1, s2, s3, s4, s5⟩
                                        go_simp
                                        with_reducible rfl
                                      rotate_left
                                      · simp only [Act.put, List.setIfInBounds_toArray, List.set_cons_zero, List.set_cons_succ, i64_w, i32_w]
                                        rfl
                                      refine take_ (i := 23) (N := some 79) (v := ?_) (a' := ?_) #[true, true, true, true, true, true, true, true, true, true, true, true, true, true, true, true, true, true, true, true, true, false, true, true, true, false, false, false, false, false, false] rfl rfl (take_ofW HT_.out HW_.out (by kernel_rfl)) (fun _ _ _ h => h) (Or.inl ⟨by rfl, ?_⟩) hHeld ?_ ?_
                                      rotate_left
                                      · rintro w' ⟨s0, s1, s2, s3, s4, s5⟩
                                        go_simp
                                        with_reducible rfl
                                      rotate_left
                                      · simp only [Act.put, List.setIfInBounds_toArray, List.set_cons_zero, List.set_cons_succ, i64_w, i32_w]
                                        rfl
                                      refine take_ (i := 25) (N := some 81) (v := ?_) (a' := ?_) #[true, true, true, true, true, true, true, true, true, true, true, true, true, true, true, true, true, true, true, true, true, false, true, true, true, true, false, false, false, false, false] rfl rfl (take_ofW HT_.out HW_.out (by kernel_rfl)) (fun _ _ _ h => h) (Or.inl ⟨by rfl, ?_⟩) hHeld ?_ ?_
                                      rotate_left
                                      · rintro w' ⟨s0, s1, s2, s3, s4, s5⟩
                                        go_simp
                                        with_reducible rfl
                                      rotate_left
                                      · simp only [Act.put, List.setIfInBounds_toArray, List.set_cons_zero, List.set_cons_succ, i64_w, i32_w]
                                        rfl
                                      refine one_ (i := 21) (N := some 77) #[true, true, true, true, true, true, true, true, true, true, true, true, true, true, true, true, true, true, true, true, true, true, true, true, true, true, false, false, false, false, false] rfl rfl (one_of HT_.out (by kernel_rfl)) (by decide) (fun K hK => ?_)
                                      refine goes_ Try.func26 (by kernel_rfl) rfl #[.int .i32 ((rd_T44 l0 (ji18)).f0), .int .i32 ((rd_T44 l0 (ji18)).f1)] (by rfl) rfl rfl (by (try simp only [List.map_toArray, List.map_cons, List.map_nil]); first | done | (simp only [hji18]; rfl) | rfl | (simp only [List.length_drop, List.length_take]; rfl)) ?_
                                      with_reducible refine (calamuslaw10_small.calls ((rd_T44 l0 (ji18)).f0) ((rd_T44 l0 (ji18)).f1) t194 t195 _ A21.out).mono ?_
                                      rintro e w37 ⟨rfl, hb⟩
                                      refine ⟨_, rfl, ?_⟩
                                      have n0_ := Aside0.mk (Kd.R_below (by (with_reducible repeat (first | apply Kd.R_alloc | apply Kd.R_drewN | apply Kd.R_drew)); exact HO_9.out) hb)
                                      have n1_ := Aside0.mk (Kd.R_below (by (with_reducible repeat (first | apply Kd.R_alloc | apply Kd.R_drewN | apply Kd.R_drew)); exact HO_10.out) hb)
                                      have n2_ := Aside0.mk (Kd.R_below (by (with_reducible repeat (first | apply Kd.R_alloc | apply Kd.R_drewN | apply Kd.R_drew)); exact HO188.out) hb)
                                      have n3_ := Aside0.mk (Kd.R_below (by (with_reducible repeat (first | apply Kd.R_alloc | apply Kd.R_drewN | apply Kd.R_drew)); exact HO191.out) hb)
                                      have n4_ := Aside0.mk (blk_below (g := gb180) (o := .cells #[.int .i32 a1_0, .int .i32 a1_1] 44 (0, 0)) (by (with_reducible repeat (first | refine blk_drewN ?_ _ | refine blk_drew ?_ | refine blk_alloc ?_ _)); exact BK180.out) hb)
                                      have n5_ := Aside0.mk (below_step (by repeat (first | (with_reducible first | exact HB.out | apply below_alloc | apply pw_below_drewN | apply below_drew1 | refine below_set ?_ GE180.out) | exact HB.out)) hb)
                                      clear HO_9
                                      clear HO_10
                                      clear HO188
                                      clear HO191
                                      clear BK180
                                      clear HB
                                      have HO_9 := n0_
                                      have HO_10 := n1_
                                      have HO188 := n2_
                                      have HO191 := n3_
                                      have BK180 := n4_
                                      have HB := n5_
                                      clear n0_ n1_ n2_ n3_ n4_ n5_
                                      (try clear hb)
                                      (try clear hb2)
                                      (try clear hk)
                                      (try clear hi)
                                      refine hK.out _ _ ⟨(blk_cell BK180.out 0).trans rfl, (blk_cell BK180.out 1).trans rfl, ((HB.out.cell (World.block_lt_of_cell? w _ hw192_0)).trans hw192_0), ((HB.out.cell (World.block_lt_of_cell? w _ hw192_1)).trans hw192_1), ((HB.out.cell (World.block_lt_of_cell? w _ hw193_0)).trans hw193_0), ((HB.out.cell (World.block_lt_of_cell? w _ hw193_1)).trans hw193_1)⟩ (fun hHeld => ?_)
                                      clear hK K
                                      refine norm_ (a' := ?_) ?_ ?_
                                      rotate_left
                                      · show Act.put _ (some 77) _ = _
                                        simp only [Act.put, List.setIfInBounds_toArray, List.set_cons_zero, List.set_cons_succ, i64_w, i32_w]
                                        rfl
                                      refine one_ (i := 26) (N := some 82) #[true, true, true, true, true, true, true, true, true, true, true, true, true, true, true, true, true, true, true, true, true, true, true, true, true, true, true, false, false, false, false] rfl rfl (one_of HT_.out (by kernel_rfl)) (by decide) (fun K hK => ?_)
                                      refine goes_ Try.func26 (by kernel_rfl) rfl #[.int .i32 a1_0, .int .i32 a1_1] (by rfl) rfl rfl (by (try simp only [List.map_toArray, List.map_cons, List.map_nil]); first | done | rfl | (simp only [List.length_drop, List.length_take]; rfl)) ?_
                                      with_reducible refine (calamuslaw10_small.calls a1_0 a1_1 t196 t197 _ A22.out).mono ?_
                                      rintro e w38 ⟨rfl, hb⟩
                                      refine ⟨_, rfl, ?_⟩
                                      have n0_ := Aside0.mk (Kd.R_below (by (with_reducible repeat (first | apply Kd.R_alloc | apply Kd.R_drewN | apply Kd.R_drew)); exact HO_9.out) hb)
                                      have n1_ := Aside0.mk (Kd.R_below (by (with_reducible repeat (first | apply Kd.R_alloc | apply Kd.R_drewN | apply Kd.R_drew)); exact HO_10.out) hb)
                                      have n2_ := Aside0.mk (Kd.R_below (by (with_reducible repeat (first | apply Kd.R_alloc | apply Kd.R_drewN | apply Kd.R_drew)); exact HO188.out) hb)
                                      have n3_ := Aside0.mk (Kd.R_below (by (with_reducible repeat (first | apply Kd.R_alloc | apply Kd.R_drewN | apply Kd.R_drew)); exact HO191.out) hb)
                                      have n4_ := Aside0.mk (blk_below (g := gb180) (o := .cells #[.int .i32 a1_0, .int .i32 a1_1] 44 (0, 0)) (by (with_reducible repeat (first | refine blk_drewN ?_ _ | refine blk_drew ?_ | refine blk_alloc ?_ _)); exact BK180.out) hb)
                                      have n5_ := Aside0.mk (below_step (by repeat (first | (with_reducible first | exact HB.out | apply below_alloc | apply pw_below_drewN | apply below_drew1 | refine below_set ?_ GE180.out) | exact HB.out)) hb)
                                      clear HO_9
                                      clear HO_10
                                      clear HO188
                                      clear HO191
                                      clear BK180
                                      clear HB
                                      have HO_9 := n0_
                                      have HO_10 := n1_
                                      have HO188 := n2_
                                      have HO191 := n3_
                                      have BK180 := n4_
                                      have HB := n5_
                                      clear n0_ n1_ n2_ n3_ n4_ n5_
                                      (try clear hb)
                                      (try clear hb2)
                                      (try clear hk)
                                      (try clear hi)
                                      refine hK.out _ _ ⟨(blk_cell BK180.out 0).trans rfl, (blk_cell BK180.out 1).trans rfl, ((HB.out.cell (World.block_lt_of_cell? w _ hw192_0)).trans hw192_0), ((HB.out.cell (World.block_lt_of_cell? w _ hw192_1)).trans hw192_1), ((HB.out.cell (World.block_lt_of_cell? w _ hw193_0)).trans hw193_0), ((HB.out.cell (World.block_lt_of_cell? w _ hw193_1)).trans hw193_1)⟩ (fun hHeld => ?_)
                                      clear hK K
                                      refine norm_ (a' := ?_) ?_ ?_
                                      rotate_left
                                      · show Act.put _ (some 82) _ = _
                                        simp only [Act.put, List.setIfInBounds_toArray, List.set_cons_zero, List.set_cons_succ, i64_w, i32_w]
                                        rfl
                                      refine one_ (i := 27) (N := some 83) #[true, true, true, true, true, true, true, true, true, true, true, true, true, true, true, true, true, true, true, true, true, true, true, true, true, true, true, true, false, false, false] rfl rfl (one_of HT_.out (by kernel_rfl)) (by decide) (fun K hK => ?_)
                                      refine goes_ Try.func27 (by kernel_rfl) rfl #[.agg #[.int .i64 t194, .int .i64 t195], .agg #[.int .i64 t196, .int .i64 t197]] (by rfl) rfl rfl (by (try simp only [List.map_toArray, List.map_cons, List.map_nil]); first | done | rfl | (simp only [List.length_drop, List.length_take]; rfl)) ?_
                                      with_reducible refine (calamusref10_More.calls t194 t195 t196 t197 t198 t199 _ A23.out).mono ?_
                                      rintro e w39 ⟨rfl, hb⟩
                                      refine ⟨_, rfl, ?_⟩
                                      have n0_ := Aside0.mk (Kd.R_below (by (with_reducible repeat (first | apply Kd.R_alloc | apply Kd.R_drewN | apply Kd.R_drew)); exact HO_9.out) hb)
                                      have n1_ := Aside0.mk (Kd.R_below (by (with_reducible repeat (first | apply Kd.R_alloc | apply Kd.R_drewN | apply Kd.R_drew)); exact HO_10.out) hb)
                                      have n2_ := Aside0.mk (Kd.R_below (by (with_reducible repeat (first | apply Kd.R_alloc | apply Kd.R_drewN | apply Kd.R_drew)); exact HO188.out) hb)
                                      have n3_ := Aside0.mk (Kd.R_below (by (with_reducible repeat (first | apply Kd.R_alloc | apply Kd.R_drewN | apply Kd.R_drew)); exact HO191.out) hb)
                                      have n4_ := Aside0.mk (blk_below (g := gb180) (o := .cells #[.int .i32 a1_0, .int .i32 a1_1] 44 (0, 0)) (by (with_reducible repeat (first | refine blk_drewN ?_ _ | refine blk_drew ?_ | refine blk_alloc ?_ _)); exact BK180.out) hb)
                                      have n5_ := Aside0.mk (below_step (by repeat (first | (with_reducible first | exact HB.out | apply below_alloc | apply pw_below_drewN | apply below_drew1 | refine below_set ?_ GE180.out) | exact HB.out)) hb)
                                      clear HO_9
                                      clear HO_10
                                      clear HO188
                                      clear HO191
                                      clear BK180
                                      clear HB
                                      have HO_9 := n0_
                                      have HO_10 := n1_
                                      have HO188 := n2_
                                      have HO191 := n3_
                                      have BK180 := n4_
                                      have HB := n5_
                                      clear n0_ n1_ n2_ n3_ n4_ n5_
                                      (try clear hb)
                                      (try clear hb2)
                                      (try clear hk)
                                      (try clear hi)
                                      refine hK.out _ _ ⟨(blk_cell BK180.out 0).trans rfl, (blk_cell BK180.out 1).trans rfl, ((HB.out.cell (World.block_lt_of_cell? w _ hw192_0)).trans hw192_0), ((HB.out.cell (World.block_lt_of_cell? w _ hw192_1)).trans hw192_1), ((HB.out.cell (World.block_lt_of_cell? w _ hw193_0)).trans hw193_0), ((HB.out.cell (World.block_lt_of_cell? w _ hw193_1)).trans hw193_1)⟩ (fun hHeld => ?_)
                                      clear hK K
                                      refine norm_ (a' := ?_) ?_ ?_
                                      rotate_left
                                      · show Act.put _ (some 83) _ = _
                                        simp only [Act.put, List.setIfInBounds_toArray, List.set_cons_zero, List.set_cons_succ, i64_w, i32_w]
                                        rfl
                                      refine one_ (i := 28) (N := some 84) #[true, true, true, true, true, true, true, true, true, true, true, true, true, true, true, true, true, true, true, true, true, true, true, true, true, true, true, true, true, false, false] rfl rfl (one_of HT_.out (by kernel_rfl)) (by decide) (fun K hK => ?_)
                                      refine Kd.R_lit_step k23 _ 23 ?hg (N := 84) ?hd (xs := ([(⟨t198, t199⟩ : S23)] : List (S23))) (inner := [.int .i64 t198, .int .i64 t199]) (ok := fun _ => True) (okp := fun _ => True) ?hr ?hp (fun _ hk => hk) trivial (Below.refl _ _) (Nat.le_refl _) (by simp) ?_; (case hd => rfl); (case hg => rfl); (case hr => first | (go_simp; done) | (go_simp; rfl)); (case hp => exact (Reps.c2 (show Kd.M k23 _ _ _ (⟨t198, t199⟩ : S23) [.int .i64 t198, .int .i64 t199] from (k23_mkM _ _ _ (⟨t198, t199⟩ : S23) )) (Reps.none _ _)))
                                      intro v201 w40 ho41 hb hg_ hnew_
                                      clear hg_ hnew_
                                      (first | rw [← Ny200.out] at ho41 | (simp only [Int.reduceToNat] at ho41; rw [← Ny200.out] at ho41))
                                      have n0_ := Aside0.mk (Kd.R_elder' (by (with_reducible repeat (first | apply Kd.R_alloc | apply Kd.R_drewN | apply Kd.R_drew)); exact HO_9.out) (Kd.R_base ho41) hb)
                                      have n1_ := Aside0.mk (Kd.R_elder' (by (with_reducible repeat (first | apply Kd.R_alloc | apply Kd.R_drewN | apply Kd.R_drew)); exact HO_10.out) (Kd.R_base ho41) hb)
                                      have n2_ := Aside0.mk (Kd.R_elder' (by (with_reducible repeat (first | apply Kd.R_alloc | apply Kd.R_drewN | apply Kd.R_drew)); exact HO188.out) (Kd.R_base ho41) hb)
                                      have n3_ := Aside0.mk (Kd.R_elder' (by (with_reducible repeat (first | apply Kd.R_alloc | apply Kd.R_drewN | apply Kd.R_drew)); exact HO191.out) (Kd.R_base ho41) hb)
                                      have n4_ := Aside0.mk (Kd.R_lower (Kd.R_new' (Kd.R_new' (Kd.R_new' (Kd.R_new' ho41 (Kd.R_lt (by (with_reducible repeat (first | apply Kd.R_alloc | apply Kd.R_drewN | apply Kd.R_drew)); exact HO_9.out))) (Kd.R_lt (by (with_reducible repeat (first | apply Kd.R_alloc | apply Kd.R_drewN | apply Kd.R_drew)); exact HO_10.out))) (Kd.R_lt (by (with_reducible repeat (first | apply Kd.R_alloc | apply Kd.R_drewN | apply Kd.R_drew)); exact HO188.out))) (Kd.R_lt (by (with_reducible repeat (first | apply Kd.R_alloc | apply Kd.R_drewN | apply Kd.R_drew)); exact HO191.out))) (below_size (by repeat (first | (with_reducible first | exact HB.out | apply below_alloc | apply pw_below_drewN | apply below_drew1 | refine below_set ?_ GE180.out) | exact HB.out))))
                                      have n5_ := Aside0.mk (blk_below (g := gb180) (o := .cells #[.int .i32 a1_0, .int .i32 a1_1] 44 (0, 0)) (by (with_reducible repeat (first | refine blk_drewN ?_ _ | refine blk_drew ?_ | refine blk_alloc ?_ _)); exact BK180.out) hb)
                                      have n6_ := Aside0.mk (below_step (by repeat (first | (with_reducible first | exact HB.out | apply below_alloc | apply pw_below_drewN | apply below_drew1 | refine below_set ?_ GE180.out) | exact HB.out)) hb)
                                      clear HO_9
                                      clear HO_10
                                      clear HO188
                                      clear HO191
                                      clear BK180
                                      clear HB
                                      have HO_9 := n0_
                                      have HO_10 := n1_
                                      have HO188 := n2_
                                      have HO191 := n3_
                                      have HO202 := n4_
                                      have BK180 := n5_
                                      have HB := n6_
                                      clear n0_ n1_ n2_ n3_ n4_ n5_ n6_
                                      clear hb ho41
                                      obtain ⟨Ao43, co43, eo43⟩ := Kd.R_slice HO202.out
                                      (first | subst eo43 | (injection eo43 with f1_ f2_ f3_; have f4_ := f1_.symm; have f5_ := f3_.symm; clear f1_ f2_ f3_; subst f4_; subst f5_))
                                      refine hK.out _ _ ⟨(blk_cell BK180.out 0).trans rfl, (blk_cell BK180.out 1).trans rfl, ((HB.out.cell (World.block_lt_of_cell? w _ hw192_0)).trans hw192_0), ((HB.out.cell (World.block_lt_of_cell? w _ hw192_1)).trans hw192_1), ((HB.out.cell (World.block_lt_of_cell? w _ hw193_0)).trans hw193_0), ((HB.out.cell (World.block_lt_of_cell? w _ hw193_1)).trans hw193_1)⟩ (fun hHeld => ?_)
                                      clear hK K
                                      refine norm_ (a' := ?_) ?_ ?_
                                      rotate_left
                                      · show Act.put _ (some 84) _ = _
                                        simp only [Act.put, List.setIfInBounds_toArray, List.set_cons_zero, List.set_cons_succ, i64_w, i32_w]
                                        rfl
                                      refine one_ (i := 29) (N := some 85) #[true, true, true, true, true, true, true, true, true, true, true, true, true, true, true, true, true, true, true, true, true, true, true, true, true, true, true, true, true, true, false] rfl rfl (one_of HT_.out (by kernel_rfl)) (by decide) (fun K hK => ?_)
                                      refine Kd.R_append_rows_step k23 (w0 := w) w.heap.size (by rfl) (.tmp 56) (.tmp 84) 34 23 (.agg #[(.int .i64 0), (.int .i64 0)]) 16 rfl Try.underlying34 info23 rfl (by decide) (by omega) u9 x9_2 y200 _ _ _ (fun k_ => some k_ ≠ (u10 : Value).ownBlock ∧ some k_ ≠ (.slice Ao35 y186.length co35 : Value).ownBlock ∧ some k_ ≠ (v190 : Value).ownBlock ∧ some k_ ≠ (.slice Ao43 y200.length co43 : Value).ownBlock) (fun _ => False) rfl rfl ?aO ?aR (fun _ _ h => h) (fun _ h => h.elim) ?aF ?aB ?aS ?aL ?_
                                      (case aR => repeat (first | exact (Kd.R_reads' HO202.out).2.2 | (with_reducible refine Kd.C_alloc ?_ _) | (with_reducible refine Kd.C_drewN ?_ _) | (with_reducible refine Kd.C_drew ?_)))
                                      (case aB => exact (by repeat (first | (with_reducible first | exact HB.out | apply below_alloc | apply pw_below_drewN | apply below_drew1 | refine below_set ?_ GE180.out) | exact HB.out)))
                                      (case aF => exact (fun k_ hk => ⟨Kd.fresh' (Kd.R_lt (by (with_reducible repeat (first | apply Kd.R_alloc | apply Kd.R_drewN | apply Kd.R_drew)); exact HO_10.out)) k_ hk, Kd.fresh' (Kd.R_lt (by (with_reducible repeat (first | apply Kd.R_alloc | apply Kd.R_drewN | apply Kd.R_drew)); exact HO188.out)) k_ hk, Kd.fresh' (Kd.R_lt (by (with_reducible repeat (first | apply Kd.R_alloc | apply Kd.R_drewN | apply Kd.R_drew)); exact HO191.out)) k_ hk, Kd.fresh' (Kd.R_lt (by (with_reducible repeat (first | apply Kd.R_alloc | apply Kd.R_drewN | apply Kd.R_drew)); exact HO202.out)) k_ hk⟩))
                                      (case aO => exact (by (with_reducible repeat (first | apply Kd.R_alloc | apply Kd.R_drewN | apply Kd.R_drew)); exact Kd.R_mono HO_9.out (fun _ hk => ⟨hk.1.1.1, ⟨hk.1.1.2, ⟨hk.1.2, hk.2⟩⟩⟩)))
                                      (case aS => exact (below_size (by repeat (first | (with_reducible first | exact HB.out | apply below_alloc | apply pw_below_drewN | apply below_drew1 | refine below_set ?_ GE180.out) | exact HB.out))))
                                      (case aL => have := LMc24.out; omega)
                                      intro v204 w42 ho hb hg hat
                                      rw [← Ny203.out] at ho
                                      have n0_ := Aside0.mk (Kd.R_after (ok := (fun k_ => some k_ ≠ (.slice Ao35 y186.length co35 : Value).ownBlock ∧ some k_ ≠ (v190 : Value).ownBlock ∧ some k_ ≠ (.slice Ao43 y200.length co43 : Value).ownBlock)) (by (with_reducible repeat (first | apply Kd.R_alloc | apply Kd.R_drewN | apply Kd.R_drew)); exact Kd.R_mono HO_10.out (fun _ hk => ⟨⟨hk.1.1.2, ⟨hk.1.2, hk.2⟩⟩, hk.1.1.1⟩)) hg hat)
                                      have n1_ := Aside0.mk (blk_grown (g := gb180) (o := .cells #[.int .i32 a1_0, .int .i32 a1_1] 44 (0, 0)) (by (with_reducible repeat (first | refine blk_drewN ?_ _ | refine blk_drew ?_ | refine blk_alloc ?_ _)); exact BK180.out) hg (Kd.R_ne HO_9.out BK180.out (by decide)))
                                      have n2_ := Aside0.mk (Kd.R_after (ok := (fun k_ => some k_ ≠ (u10 : Value).ownBlock ∧ some k_ ≠ (v190 : Value).ownBlock ∧ some k_ ≠ (.slice Ao43 y200.length co43 : Value).ownBlock)) (by (with_reducible repeat (first | apply Kd.R_alloc | apply Kd.R_drewN | apply Kd.R_drew)); exact Kd.R_mono HO188.out (fun _ hk => ⟨⟨hk.1.1.2, ⟨hk.1.2, hk.2⟩⟩, hk.1.1.1⟩)) hg hat)
                                      have n3_ := Aside0.mk (Kd.R_after (ok := (fun k_ => some k_ ≠ (u10 : Value).ownBlock ∧ some k_ ≠ (.slice Ao35 y186.length co35 : Value).ownBlock ∧ some k_ ≠ (.slice Ao43 y200.length co43 : Value).ownBlock)) (by (with_reducible repeat (first | apply Kd.R_alloc | apply Kd.R_drewN | apply Kd.R_drew)); exact Kd.R_mono HO191.out (fun _ hk => ⟨⟨hk.1.2.1, ⟨hk.1.2.2, hk.2⟩⟩, hk.1.1⟩)) hg hat)
                                      have n4_ := Aside0.mk (Kd.R_after (ok := (fun k_ => some k_ ≠ (u10 : Value).ownBlock ∧ some k_ ≠ (.slice Ao35 y186.length co35 : Value).ownBlock ∧ some k_ ≠ (v190 : Value).ownBlock)) (by (with_reducible repeat (first | apply Kd.R_alloc | apply Kd.R_drewN | apply Kd.R_drew)); exact Kd.R_mono HO202.out (fun _ hk => ⟨⟨hk.1.1.2, ⟨hk.1.2, hk.2⟩⟩, hk.1.1.1.2⟩)) hg hat)
                                      have n5_ := Aside0.mk (hb)
                                      have n6_ := Aside0.mk (ho)
                                      clear HO_10
                                      clear BK180
                                      clear HO188
                                      clear HO191
                                      clear HO202
                                      clear HB
                                      clear HO_9
                                      have HO_10 := n0_
                                      have BK180 := n1_
                                      have HO188 := n2_
                                      have HO191 := n3_
                                      have HO202 := n4_
                                      have HB := n5_
                                      have HO205 := n6_
                                      clear n0_ n1_ n2_ n3_ n4_ n5_ n6_
                                      clear ho hb hg hat
                                      refine hK.out _ _ ⟨(blk_cell BK180.out 0).trans rfl, (blk_cell BK180.out 1).trans rfl, ((HB.out.cell (World.block_lt_of_cell? w _ hw192_0)).trans hw192_0), ((HB.out.cell (World.block_lt_of_cell? w _ hw192_1)).trans hw192_1), ((HB.out.cell (World.block_lt_of_cell? w _ hw193_0)).trans hw193_0), ((HB.out.cell (World.block_lt_of_cell? w _ hw193_1)).trans hw193_1)⟩ (fun hHeld => ?_)
                                      clear hK K
                                      refine norm_ (a' := ?_) ?_ ?_
                                      rotate_left
                                      · show Act.put _ (some 85) _ = _
                                        simp only [Act.put, List.setIfInBounds_toArray, List.set_cons_zero, List.set_cons_succ, i64_w, i32_w]
                                        rfl
                                      refine pure_ (i := 30) (N := some 9) (v := ?_) (a' := ?_) #[true, true, true, true, true, true, true, true, true, true, true, true, true, true, true, true, true, true, true, true, true, true, true, true, true, true, true, true, true, true, true] rfl rfl (any_of HT_.out (by kernel_rfl)) (fun _ _ _ h => h) (Or.inl ⟨by rfl, ?_⟩) ?_ ?_
                                      rotate_left
                                      · intro w'
                                        go_simp
                                        with_reducible rfl
                                      rotate_left
                                      · simp only [Act.put, List.setIfInBounds_toArray, List.set_cons_zero, List.set_cons_succ, i64_w, i32_w]
                                        rfl
                                      refine done_ (done_of HT_.out (by kernel_rfl)) ?_
                                      try go_wp2
                                      have n0_ := Aside0.mk (Kd.R_drew HO_10.out)
                                      have n1_ := Aside0.mk (Kd.R_drew HO188.out)
                                      have n2_ := Aside0.mk (Kd.R_drew HO191.out)
                                      have n3_ := Aside0.mk (Kd.R_drew HO202.out)
                                      have n4_ := Aside0.mk (Kd.R_drew HO205.out)
                                      have n5_ := Aside0.mk (blk_drew BK180.out)
                                      have n6_ := Aside0.mk (below_drew1 HB.out)
                                      clear HO_10
                                      clear HO188
                                      clear HO191
                                      clear HO202
                                      clear HO205
                                      clear BK180
                                      clear HB
                                      have HO_10 := n0_
                                      have HO188 := n1_
                                      have HO191 := n2_
                                      have HO202 := n3_
                                      have HO205 := n4_
                                      have BK180 := n5_
                                      have HB := n6_
                                      clear n0_ n1_ n2_ n3_ n4_ n5_ n6_
                                      have p206 : 0 ≤ ((ji25) : Int) := of_decide_eq_true (by first | (with_reducible assumption) | assumption)
                                      have q206 : (ji25) < (l0.length : Int) := of_decide_eq_true (by first | (with_reducible assumption) | assumption)
                                      obtain ⟨ad206, e206, hx206_0, hx206_1⟩ := at_T44 HR0.out (ji25) p206 q206
                                      have hw206_1 := hx206_1
                                      have hw206_0 := hx206_0
                                      obtain rfl : ad182 = ad206 := (by injection e206)
                                      replace hx206_0 := (HB.out.cell (World.block_lt_of_cell? w _ hx206_0)).trans hx206_0
                                      replace hx206_1 := (HB.out.cell (World.block_lt_of_cell? w _ hx206_1)).trans hx206_1
                                      replace p206 := eq_true p206
                                      replace q206 := eq_true q206
                                      have p207 : 0 ≤ ((ji25) : Int) := of_decide_eq_true (by first | (with_reducible assumption) | assumption)
                                      have q207 : (ji25) < (l0.length : Int) := of_decide_eq_true (by first | (with_reducible assumption) | assumption)
                                      obtain ⟨ad207, e207, hx207_0, hx207_1⟩ := at_T44 HR0.out (ji25) p207 q207
                                      have hw207_1 := hx207_1
                                      have hw207_0 := hx207_0
                                      obtain rfl : ad182 = ad207 := (by injection e207)
                                      replace hx207_0 := (HB.out.cell (World.block_lt_of_cell? w _ hx207_0)).trans hx207_0
                                      replace hx207_1 := (HB.out.cell (World.block_lt_of_cell? w _ hx207_1)).trans hx207_1
                                      replace p207 := eq_true p207
                                      replace q207 := eq_true q207
                                      refine start_ (n := 23) (S := fun w' => w'.cell? (ad182.add (((ji25)).toNat * 2)) = some (.int .i32 ((rd_T44 l0 (ji25)).f0)) ∧ w'.cell? ⟨(ad182.add (((ji25)).toNat * 2)).block, (ad182.add (((ji25)).toNat * 2)).off + 1, none⟩ = some (.int .i32 ((rd_T44 l0 (ji25)).f1)) ∧ w'.cell? (ad182.add (((ji25)).toNat * 2)) = some (.int .i32 ((rd_T44 l0 (ji25)).f0)) ∧ w'.cell? ⟨(ad182.add (((ji25)).toNat * 2)).block, (ad182.add (((ji25)).toNat * 2)).off + 1, none⟩ = some (.int .i32 ((rd_T44 l0 (ji25)).f1))) (ds := []) #[false, false, false, false, false, false, false, false, false, false, false, false, false, false, false, false, false, false, false, false, false, false, false] (by kernel_rfl) rfl rfl ⟨((HB.out.cell (World.block_lt_of_cell? w _ hw206_0)).trans hw206_0), ((HB.out.cell (World.block_lt_of_cell? w _ hw206_1)).trans hw206_1), ((HB.out.cell (World.block_lt_of_cell? w _ hw207_0)).trans hw207_0), ((HB.out.cell (World.block_lt_of_cell? w _ hw207_1)).trans hw207_1)⟩ (fun hHeld => ?_); refine with_tabW calamuslaw10_GaussWays.tab12 calamuslaw10_GaussWays.bits12 (fun HT_ HW_ => ?_)
                                      generalize w42.drew = w44 at HO_10 HO188 HO191 HO202 HO205 BK180 HB hx206_0 hx206_1 hx207_0 hx207_1 hHeld ⊢
                                      refine pure_ (i := 0) (N := some 86) (v := ?_) (a' := ?_) #[true, false, false, false, false, false, false, false, false, false, false, false, false, false, false, false, false, false, false, false, false, false, false] rfl rfl (any_of HT_.out (by kernel_rfl)) (fun _ _ _ h => h) (Or.inl ⟨by rfl, ?_⟩) ?_ ?_
                                      rotate_left
                                      · intro w'
                                        go_simp
                                        with_reducible rfl
                                      rotate_left
                                      · simp only [Act.put, List.setIfInBounds_toArray, List.set_cons_zero, List.set_cons_succ, i64_w, i32_w]
                                        rfl
                                      refine pure_ (i := 1) (N := some 87) (v := ?_) (a' := ?_) #[true, true, false, false, false, false, false, false, false, false, false, false, false, false, false, false, false, false, false, false, false, false, false] rfl rfl (any_of HT_.out (by kernel_rfl)) (fun _ _ _ h => h) (Or.inl ⟨by rfl, ?_⟩) ?_ ?_
                                      rotate_left
                                      · intro w'
                                        go_simp
                                        with_reducible rfl
                                      rotate_left
                                      · simp only [Act.put, List.setIfInBounds_toArray, List.set_cons_zero, List.set_cons_succ, i64_w, i32_w]
                                        rfl
                                      refine pure_ (i := 2) (N := some 88) (v := ?_) (a' := ?_) #[true, true, true, false, false, false, false, false, false, false, false, false, false, false, false, false, false, false, false, false, false, false, false] rfl rfl (any_of HT_.out (by kernel_rfl)) (fun _ _ _ h => h) (Or.inl ⟨by rfl, ?_⟩) ?_ ?_
                                      rotate_left
                                      · intro w'
                                        go_simp
                                        with_reducible rfl
                                      rotate_left
                                      · simp only [Act.put, List.setIfInBounds_toArray, List.set_cons_zero, List.set_cons_succ, i64_w, i32_w]
                                        rfl
                                      refine pure_ (i := 3) (N := some 89) (v := ?_) (a' := ?_) #[true, true, true, true, false, false, false, false, false, false, false, false, false, false, false, false, false, false, false, false, false, false, false] rfl rfl (any_of HT_.out (by kernel_rfl)) (fun _ _ _ h => h) (Or.inl ⟨by rfl, ?_⟩) ?_ ?_
                                      rotate_left
                                      · intro w'
                                        go_simp
                                        with_reducible rfl
                                      rotate_left
                                      · simp only [Act.put, List.setIfInBounds_toArray, List.set_cons_zero, List.set_cons_succ, i64_w, i32_w]
                                        rfl
                                      refine pure_ (i := 4) (N := some 90) (v := ?_) (a' := ?_) #[true, true, true, true, true, false, false, false, false, false, false, false, false, false, false, false, false, false, false, false, false, false, false] rfl rfl (any_of HT_.out (by kernel_rfl)) (fun _ _ _ h => h) (Or.inl ⟨by rfl, ?_⟩) ?_ ?_
                                      rotate_left
                                      · intro w'
                                        go_simp
                                        with_reducible rfl
                                      rotate_left
                                      · simp only [Act.put, List.setIfInBounds_toArray, List.set_cons_zero, List.set_cons_succ, i64_w, i32_w]
                                        rfl
                                      refine pure_ (i := 5) (N := some 91) (v := ?_) (a' := ?_) #[true, true, true, true, true, true, false, false, false, false, false, false, false, false, false, false, false, false, false, false, false, false, false] rfl rfl (any_of HT_.out (by kernel_rfl)) (fun _ _ _ h => h) (Or.inl ⟨by rfl, ?_⟩) ?_ ?_
                                      rotate_left
                                      · intro w'
                                        go_simp
                                        with_reducible rfl
                                      rotate_left
                                      · simp only [Act.put, List.setIfInBounds_toArray, List.set_cons_zero, List.set_cons_succ, i64_w, i32_w]
                                        rfl
                                      refine pure_ (i := 6) (N := some 92) (v := ?_) (a' := ?_) #[true, true, true, true, true, true, true, false, false, false, false, false, false, false, false, false, false, false, false, false, false, false, false] rfl rfl (any_of HT_.out (by kernel_rfl)) (fun _ _ _ h => h) (Or.inl ⟨by rfl, ?_⟩) ?_ ?_
                                      rotate_left
                                      · intro w'
                                        go_simp
                                        with_reducible rfl
                                      rotate_left
                                      · simp only [Act.put, List.setIfInBounds_toArray, List.set_cons_zero, List.set_cons_succ, i64_w, i32_w]
                                        rfl
                                      refine pure_ (i := 7) (N := some 93) (v := ?_) (a' := ?_) #[true, true, true, true, true, true, true, true, false, false, false, false, false, false, false, false, false, false, false, false, false, false, false] rfl rfl (any_of HT_.out (by kernel_rfl)) (fun _ _ _ h => h) (Or.inl ⟨by rfl, ?_⟩) ?_ ?_
                                      rotate_left
                                      · intro w'
                                        go_simp
                                        with_reducible rfl
                                      rotate_left
                                      · simp only [Act.put, List.setIfInBounds_toArray, List.set_cons_zero, List.set_cons_succ, i64_w, i32_w]
                                        rfl
                                      refine pure_ (i := 8) (N := some 94) (v := ?_) (a' := ?_) #[true, true, true, true, true, true, true, true, true, false, false, false, false, false, false, false, false, false, false, false, false, false, false] rfl rfl (any_of HT_.out (by kernel_rfl)) (fun _ _ _ h => h) (Or.inl ⟨by rfl, ?_⟩) ?_ ?_
                                      rotate_left
                                      · intro w'
                                        go_simp
                                        with_reducible rfl
                                      rotate_left
                                      · simp only [Act.put, List.setIfInBounds_toArray, List.set_cons_zero, List.set_cons_succ, i64_w, i32_w]
                                        rfl
                                      refine pure_ (i := 10) (N := some 96) (v := ?_) (a' := ?_) #[true, true, true, true, true, true, true, true, true, false, true, false, false, false, false, false, false, false, false, false, false, false, false] rfl rfl (any_of HT_.out (by kernel_rfl)) (fun _ _ _ h => h) (Or.inl ⟨by rfl, ?_⟩) ?_ ?_
                                      rotate_left
                                      · intro w'
                                        go_simp
                                        with_reducible rfl
                                      rotate_left
                                      · simp only [Act.put, List.setIfInBounds_toArray, List.set_cons_zero, List.set_cons_succ, i64_w, i32_w]
                                        rfl
                                      refine pure_ (i := 11) (N := some 97) (v := ?_) (a' := ?_) #[true, true, true, true, true, true, true, true, true, false, true, true, false, false, false, false, false, false, false, false, false, false, false] rfl rfl (any_of HT_.out (by kernel_rfl)) (fun _ _ _ h => h) (Or.inl ⟨by rfl, ?_⟩) ?_ ?_
                                      rotate_left
                                      · intro w'
                                        go_simp
                                        with_reducible rfl
                                      rotate_left
                                      · simp only [Act.put, List.setIfInBounds_toArray, List.set_cons_zero, List.set_cons_succ, i64_w, i32_w]
                                        rfl
                                      refine pure_ (i := 12) (N := some 98) (v := ?_) (a' := ?_) #[true, true, true, true, true, true, true, true, true, false, true, true, true, false, false, false, false, false, false, false, false, false, false] rfl rfl (any_of HT_.out (by kernel_rfl)) (fun _ _ _ h => h) (Or.inl ⟨by rfl, ?_⟩) ?_ ?_
                                      rotate_left
                                      · intro w'
                                        go_simp
                                        with_reducible rfl
                                      rotate_left
                                      · simp only [Act.put, List.setIfInBounds_toArray, List.set_cons_zero, List.set_cons_succ, i64_w, i32_w]
                                        rfl
                                      refine pure_ (i := 13) (N := some 99) (v := ?_) (a' := ?_) #[true, true, true, true, true, true, true, true, true, false, true, true, true, true, false, false, false, false, false, false, false, false, false] rfl rfl (any_of HT_.out (by kernel_rfl)) (fun _ _ _ h => h) (Or.inl ⟨by rfl, ?_⟩) ?_ ?_
                                      rotate_left
                                      · intro w'
                                        go_simp
                                        with_reducible rfl
                                      rotate_left
                                      · simp only [Act.put, List.setIfInBounds_toArray, List.set_cons_zero, List.set_cons_succ, i64_w, i32_w]
                                        rfl
                                      refine pure_ (i := 14) (N := some 100) (v := ?_) (a' := ?_) #[true, true, true, true, true, true, true, true, true, false, true, true, true, true, true, false, false, false, false, false, false, false, false] rfl rfl (any_of HT_.out (by kernel_rfl)) (fun _ _ _ h => h) (Or.inl ⟨by rfl, ?_⟩) ?_ ?_
                                      rotate_left
                                      · intro w'
                                        go_simp
                                        with_reducible rfl
                                      rotate_left
                                      · simp only [Act.put, List.setIfInBounds_toArray, List.set_cons_zero, List.set_cons_succ, i64_w, i32_w]
                                        rfl
                                      refine pure_ (i := 15) (N := some 101) (v := ?_) (a' := ?_) #[true, true, true, true, true, true, true, true, true, false, true, true, true, true, true, true, false, false, false, false, false, false, false] rfl rfl (any_of HT_.out (by kernel_rfl)) (fun _ _ _ h => h) (Or.inl ⟨by rfl, ?_⟩) ?_ ?_
                                      rotate_left
                                      · intro w'
                                        go_simp
                                        with_reducible rfl
                                      rotate_left
                                      · simp only [Act.put, List.setIfInBounds_toArray, List.set_cons_zero, List.set_cons_succ, i64_w, i32_w]
                                        rfl
                                      refine pure_ (i := 16) (N := some 102) (v := ?_) (a' := ?_) #[true, true, true, true, true, true, true, true, true, false, true, true, true, true, true, true, true, false, false, false, false, false, false] rfl rfl (any_of HT_.out (by kernel_rfl)) (fun _ _ _ h => h) (Or.inl ⟨by rfl, ?_⟩) ?_ ?_
                                      rotate_left
                                      · intro w'
                                        go_simp
                                        with_reducible rfl
                                      rotate_left
                                      · simp only [Act.put, List.setIfInBounds_toArray, List.set_cons_zero, List.set_cons_succ, i64_w, i32_w]
                                        rfl
                                      refine pure_ (i := 17) (N := some 103) (v := ?_) (a' := ?_) #[true, true, true, true, true, true, true, true, true, false, true, true, true, true, true, true, true, true, false, false, false, false, false] rfl rfl (any_of HT_.out (by kernel_rfl)) (fun _ _ _ h => h) (Or.inl ⟨by rfl, ?_⟩) ?_ ?_
                                      rotate_left
                                      · intro w'
                                        go_simp
                                        with_reducible rfl
                                      rotate_left
                                      · simp only [Act.put, List.setIfInBounds_toArray, List.set_cons_zero, List.set_cons_succ, i64_w, i32_w]
                                        rfl
                                      refine take_ (i := 9) (N := some 95) (v := ?_) (a' := ?_) #[true, true, true, true, true, true, true, true, true, true, true, true, true, true, true, true, true, true, false, false, false, false, false] rfl rfl (take_ofW HT_.out HW_.out (by kernel_rfl)) (fun _ _ _ h => h) (Or.inl ⟨by rfl, ?_⟩) hHeld ?_ ?_
                                      rotate_left
                                      · rintro w' ⟨s0, s1, s2, s3⟩
                                        go_simp
                                        with_reducible rfl
                                      rotate_left
                                      · simp only [Act.put, List.setIfInBounds_toArray, List.set_cons_zero, List.set_cons_succ, i64_w, i32_w]
                                        rfl
                                      refine take_ (i := 18) (N := some 104) (v := ?_) (a' := ?_) #[true, true, true, true, true, true, true, true, true, true, true, true, true, true, true, true, true, true, true, false, false, false, false] rfl rfl (take_ofW HT_.out HW_.out (by kernel_rfl)) (fun _ _ _ h => h) (Or.inl ⟨by rfl, ?_⟩) hHeld ?_ ?_
                                      rotate_left
                                      · rintro w' ⟨s0, s1, s2, s3⟩
                                        go_simp
                                        with_reducible rfl
                                      rotate_left
                                      · simp only [Act.put, List.setIfInBounds_toArray, List.set_cons_zero, List.set_cons_succ, i64_w, i32_w]
                                        rfl
                                      refine one_ (i := 19) (N := some 105) #[true, true, true, true, true, true, true, true, true, true, true, true, true, true, true, true, true, true, true, true, false, false, false] rfl rfl (one_of HT_.out (by kernel_rfl)) (by decide) (fun K hK => ?_)
                                      refine goes_ Try.func26 (by kernel_rfl) rfl #[.int .i32 ((rd_T44 l0 (ji25)).f0), .int .i32 ((rd_T44 l0 (ji25)).f1)] (by rfl) rfl rfl (by (try simp only [List.map_toArray, List.map_cons, List.map_nil]); first | done | (simp only [hji25]; rfl) | rfl | (simp only [List.length_drop, List.length_take]; rfl)) ?_
                                      with_reducible refine (calamuslaw10_small.calls ((rd_T44 l0 (ji25)).f0) ((rd_T44 l0 (ji25)).f1) t208 t209 _ A28.out).mono ?_
                                      rintro e w45 ⟨rfl, hb⟩
                                      refine ⟨_, rfl, ?_⟩
                                      have n0_ := Aside0.mk (Kd.R_below (by (with_reducible repeat (first | apply Kd.R_alloc | apply Kd.R_drewN | apply Kd.R_drew)); exact HO_10.out) hb)
                                      have n1_ := Aside0.mk (Kd.R_below (by (with_reducible repeat (first | apply Kd.R_alloc | apply Kd.R_drewN | apply Kd.R_drew)); exact HO188.out) hb)
                                      have n2_ := Aside0.mk (Kd.R_below (by (with_reducible repeat (first | apply Kd.R_alloc | apply Kd.R_drewN | apply Kd.R_drew)); exact HO191.out) hb)
                                      have n3_ := Aside0.mk (Kd.R_below (by (with_reducible repeat (first | apply Kd.R_alloc | apply Kd.R_drewN | apply Kd.R_drew)); exact HO202.out) hb)
                                      have n4_ := Aside0.mk (Kd.R_below (by (with_reducible repeat (first | apply Kd.R_alloc | apply Kd.R_drewN | apply Kd.R_drew)); exact HO205.out) hb)
                                      have n5_ := Aside0.mk (blk_below (g := gb180) (o := .cells #[.int .i32 a1_0, .int .i32 a1_1] 44 (0, 0)) (by (with_reducible repeat (first | refine blk_drewN ?_ _ | refine blk_drew ?_ | refine blk_alloc ?_ _)); exact BK180.out) hb)
                                      have n6_ := Aside0.mk (below_step (by repeat (first | (with_reducible first | exact HB.out | apply below_alloc | apply pw_below_drewN | apply below_drew1 | refine below_set ?_ GE180.out) | exact HB.out)) hb)
                                      clear HO_10
                                      clear HO188
                                      clear HO191
                                      clear HO202
                                      clear HO205
                                      clear BK180
                                      clear HB
                                      have HO_10 := n0_
                                      have HO188 := n1_
                                      have HO191 := n2_
                                      have HO202 := n3_
                                      have HO205 := n4_
                                      have BK180 := n5_
                                      have HB := n6_
                                      clear n0_ n1_ n2_ n3_ n4_ n5_ n6_
                                      (try clear hb)
                                      (try clear hb2)
                                      (try clear hk)
                                      (try clear hi)
                                      refine hK.out _ _ ⟨((HB.out.cell (World.block_lt_of_cell? w _ hw206_0)).trans hw206_0), ((HB.out.cell (World.block_lt_of_cell? w _ hw206_1)).trans hw206_1), ((HB.out.cell (World.block_lt_of_cell? w _ hw207_0)).trans hw207_0), ((HB.out.cell (World.block_lt_of_cell? w _ hw207_1)).trans hw207_1)⟩ (fun hHeld => ?_)
                                      clear hK K
                                      refine norm_ (a' := ?_) ?_ ?_
                                      rotate_left
                                      · show Act.put _ (some 105) _ = _
                                        simp only [Act.put, List.setIfInBounds_toArray, List.set_cons_zero, List.set_cons_succ, i64_w, i32_w]
                                        rfl
                                      refine one_ (i := 20) (N := some 106) #[true, true, true, true, true, true, true, true, true, true, true, true, true, true, true, true, true, true, true, true, true, false, false] rfl rfl (one_of HT_.out (by kernel_rfl)) (by decide) (fun K hK => ?_)
                                      refine Kd.R_lit_step k23 _ 23 ?hg (N := 106) ?hd (xs := ([(⟨t208, t209⟩ : S23)] : List (S23))) (inner := [.int .i64 t208, .int .i64 t209]) (ok := fun _ => True) (okp := fun _ => True) ?hr ?hp (fun _ hk => hk) trivial (Below.refl _ _) (Nat.le_refl _) (by simp) ?_; (case hd => rfl); (case hg => rfl); (case hr => first | (go_simp; done) | (go_simp; rfl)); (case hp => exact (Reps.c2 (show Kd.M k23 _ _ _ (⟨t208, t209⟩ : S23) [.int .i64 t208, .int .i64 t209] from (k23_mkM _ _ _ (⟨t208, t209⟩ : S23) )) (Reps.none _ _)))
                                      intro v211 w46 ho47 hb hg_ hnew_
                                      clear hg_ hnew_
                                      (first | rw [← Ny210.out] at ho47 | (simp only [Int.reduceToNat] at ho47; rw [← Ny210.out] at ho47))
                                      have n0_ := Aside0.mk (Kd.R_elder' (by (with_reducible repeat (first | apply Kd.R_alloc | apply Kd.R_drewN | apply Kd.R_drew)); exact HO_10.out) (Kd.R_base ho47) hb)
                                      have n1_ := Aside0.mk (Kd.R_elder' (by (with_reducible repeat (first | apply Kd.R_alloc | apply Kd.R_drewN | apply Kd.R_drew)); exact HO188.out) (Kd.R_base ho47) hb)
                                      have n2_ := Aside0.mk (Kd.R_elder' (by (with_reducible repeat (first | apply Kd.R_alloc | apply Kd.R_drewN | apply Kd.R_drew)); exact HO191.out) (Kd.R_base ho47) hb)
                                      have n3_ := Aside0.mk (Kd.R_elder' (by (with_reducible repeat (first | apply Kd.R_alloc | apply Kd.R_drewN | apply Kd.R_drew)); exact HO202.out) (Kd.R_base ho47) hb)
                                      have n4_ := Aside0.mk (Kd.R_elder' (by (with_reducible repeat (first | apply Kd.R_alloc | apply Kd.R_drewN | apply Kd.R_drew)); exact HO205.out) (Kd.R_base ho47) hb)
                                      have n5_ := Aside0.mk (Kd.R_lower (Kd.R_new' (Kd.R_new' (Kd.R_new' (Kd.R_new' (Kd.R_new' ho47 (Kd.R_lt (by (with_reducible repeat (first | apply Kd.R_alloc | apply Kd.R_drewN | apply Kd.R_drew)); exact HO_10.out))) (Kd.R_lt (by (with_reducible repeat (first | apply Kd.R_alloc | apply Kd.R_drewN | apply Kd.R_drew)); exact HO188.out))) (Kd.R_lt (by (with_reducible repeat (first | apply Kd.R_alloc | apply Kd.R_drewN | apply Kd.R_drew)); exact HO191.out))) (Kd.R_lt (by (with_reducible repeat (first | apply Kd.R_alloc | apply Kd.R_drewN | apply Kd.R_drew)); exact HO202.out))) (Kd.R_lt (by (with_reducible repeat (first | apply Kd.R_alloc | apply Kd.R_drewN | apply Kd.R_drew)); exact HO205.out))) (below_size (by repeat (first | (with_reducible first | exact HB.out | apply below_alloc | apply pw_below_drewN | apply below_drew1 | refine below_set ?_ GE180.out) | exact HB.out))))
                                      have n6_ := Aside0.mk (blk_below (g := gb180) (o := .cells #[.int .i32 a1_0, .int .i32 a1_1] 44 (0, 0)) (by (with_reducible repeat (first | refine blk_drewN ?_ _ | refine blk_drew ?_ | refine blk_alloc ?_ _)); exact BK180.out) hb)
                                      have n7_ := Aside0.mk (below_step (by repeat (first | (with_reducible first | exact HB.out | apply below_alloc | apply pw_below_drewN | apply below_drew1 | refine below_set ?_ GE180.out) | exact HB.out)) hb)
                                      clear HO_10
                                      clear HO188
                                      clear HO191
                                      clear HO202
                                      clear HO205
                                      clear BK180
                                      clear HB
                                      have HO_10 := n0_
                                      have HO188 := n1_
                                      have HO191 := n2_
                                      have HO202 := n3_
                                      have HO205 := n4_
                                      have HO212 := n5_
                                      have BK180 := n6_
                                      have HB := n7_
                                      clear n0_ n1_ n2_ n3_ n4_ n5_ n6_ n7_
                                      clear hb ho47
                                      obtain ⟨Ao49, co49, eo49⟩ := Kd.R_slice HO212.out
                                      (first | subst eo49 | (injection eo49 with f1_ f2_ f3_; have f4_ := f1_.symm; have f5_ := f3_.symm; clear f1_ f2_ f3_; subst f4_; subst f5_))
                                      refine hK.out _ _ ⟨((HB.out.cell (World.block_lt_of_cell? w _ hw206_0)).trans hw206_0), ((HB.out.cell (World.block_lt_of_cell? w _ hw206_1)).trans hw206_1), ((HB.out.cell (World.block_lt_of_cell? w _ hw207_0)).trans hw207_0), ((HB.out.cell (World.block_lt_of_cell? w _ hw207_1)).trans hw207_1)⟩ (fun hHeld => ?_)
                                      clear hK K
                                      refine norm_ (a' := ?_) ?_ ?_
                                      rotate_left
                                      · show Act.put _ (some 106) _ = _
                                        simp only [Act.put, List.setIfInBounds_toArray, List.set_cons_zero, List.set_cons_succ, i64_w, i32_w]
                                        rfl
                                      refine one_ (i := 21) (N := some 107) #[true, true, true, true, true, true, true, true, true, true, true, true, true, true, true, true, true, true, true, true, true, true, false] rfl rfl (one_of HT_.out (by kernel_rfl)) (by decide) (fun K hK => ?_)
                                      refine Kd.R_append_rows_step k23 (w0 := w) w.heap.size (by rfl) (.tmp 86) (.tmp 106) 34 23 (.agg #[(.int .i64 0), (.int .i64 0)]) 16 rfl Try.underlying34 info23 rfl (by decide) (by omega) u10 x10_2 y210 _ _ _ (fun k_ => some k_ ≠ (.slice Ao35 y186.length co35 : Value).ownBlock ∧ some k_ ≠ (v190 : Value).ownBlock ∧ some k_ ≠ (.slice Ao43 y200.length co43 : Value).ownBlock ∧ some k_ ≠ (v204 : Value).ownBlock ∧ some k_ ≠ (.slice Ao49 y210.length co49 : Value).ownBlock) (fun _ => False) rfl rfl ?aO ?aR (fun _ _ h => h) (fun _ h => h.elim) ?aF ?aB ?aS ?aL ?_
                                      (case aR => repeat (first | exact (Kd.R_reads' HO212.out).2.2 | (with_reducible refine Kd.C_alloc ?_ _) | (with_reducible refine Kd.C_drewN ?_ _) | (with_reducible refine Kd.C_drew ?_)))
                                      (case aB => exact (by repeat (first | (with_reducible first | exact HB.out | apply below_alloc | apply pw_below_drewN | apply below_drew1 | refine below_set ?_ GE180.out) | exact HB.out)))
                                      (case aF => exact (fun k_ hk => ⟨Kd.fresh' (Kd.R_lt (by (with_reducible repeat (first | apply Kd.R_alloc | apply Kd.R_drewN | apply Kd.R_drew)); exact HO188.out)) k_ hk, Kd.fresh' (Kd.R_lt (by (with_reducible repeat (first | apply Kd.R_alloc | apply Kd.R_drewN | apply Kd.R_drew)); exact HO191.out)) k_ hk, Kd.fresh' (Kd.R_lt (by (with_reducible repeat (first | apply Kd.R_alloc | apply Kd.R_drewN | apply Kd.R_drew)); exact HO202.out)) k_ hk, Kd.fresh' (Kd.R_lt (by (with_reducible repeat (first | apply Kd.R_alloc | apply Kd.R_drewN | apply Kd.R_drew)); exact HO205.out)) k_ hk, Kd.fresh' (Kd.R_lt (by (with_reducible repeat (first | apply Kd.R_alloc | apply Kd.R_drewN | apply Kd.R_drew)); exact HO212.out)) k_ hk⟩))
                                      (case aO => exact (by (with_reducible repeat (first | apply Kd.R_alloc | apply Kd.R_drewN | apply Kd.R_drew)); exact Kd.R_mono HO_10.out (fun _ hk => ⟨hk.1.1.1, ⟨hk.1.1.2.1, ⟨hk.1.1.2.2, ⟨hk.1.2, hk.2⟩⟩⟩⟩)))
                                      (case aS => exact (below_size (by repeat (first | (with_reducible first | exact HB.out | apply below_alloc | apply pw_below_drewN | apply below_drew1 | refine below_set ?_ GE180.out) | exact HB.out))))
                                      (case aL => have := LMc29.out; omega)
                                      intro v214 w48 ho hb hg hat
                                      rw [← Ny213.out] at ho
                                      have n0_ := Aside0.mk (blk_grown (g := gb180) (o := .cells #[.int .i32 a1_0, .int .i32 a1_1] 44 (0, 0)) (by (with_reducible repeat (first | refine blk_drewN ?_ _ | refine blk_drew ?_ | refine blk_alloc ?_ _)); exact BK180.out) hg (Kd.R_ne HO_10.out BK180.out (by decide)))
                                      have n1_ := Aside0.mk (Kd.R_after (ok := (fun k_ => some k_ ≠ (v190 : Value).ownBlock ∧ some k_ ≠ (.slice Ao43 y200.length co43 : Value).ownBlock ∧ some k_ ≠ (v204 : Value).ownBlock ∧ some k_ ≠ (.slice Ao49 y210.length co49 : Value).ownBlock)) (by (with_reducible repeat (first | apply Kd.R_alloc | apply Kd.R_drewN | apply Kd.R_drew)); exact Kd.R_mono HO188.out (fun _ hk => ⟨⟨hk.1.1.2.1, ⟨hk.1.1.2.2, ⟨hk.1.2, hk.2⟩⟩⟩, hk.1.1.1⟩)) hg hat)
                                      have n2_ := Aside0.mk (Kd.R_after (ok := (fun k_ => some k_ ≠ (.slice Ao35 y186.length co35 : Value).ownBlock ∧ some k_ ≠ (.slice Ao43 y200.length co43 : Value).ownBlock ∧ some k_ ≠ (v204 : Value).ownBlock ∧ some k_ ≠ (.slice Ao49 y210.length co49 : Value).ownBlock)) (by (with_reducible repeat (first | apply Kd.R_alloc | apply Kd.R_drewN | apply Kd.R_drew)); exact Kd.R_mono HO191.out (fun _ hk => ⟨⟨hk.1.1.2.1, ⟨hk.1.1.2.2, ⟨hk.1.2, hk.2⟩⟩⟩, hk.1.1.1⟩)) hg hat)
                                      have n3_ := Aside0.mk (Kd.R_after (ok := (fun k_ => some k_ ≠ (.slice Ao35 y186.length co35 : Value).ownBlock ∧ some k_ ≠ (v190 : Value).ownBlock ∧ some k_ ≠ (v204 : Value).ownBlock ∧ some k_ ≠ (.slice Ao49 y210.length co49 : Value).ownBlock)) (by (with_reducible repeat (first | apply Kd.R_alloc | apply Kd.R_drewN | apply Kd.R_drew)); exact Kd.R_mono HO202.out (fun _ hk => ⟨⟨hk.1.1.2.1, ⟨hk.1.1.2.2, ⟨hk.1.2, hk.2⟩⟩⟩, hk.1.1.1⟩)) hg hat)
                                      have n4_ := Aside0.mk (Kd.R_after (ok := (fun k_ => some k_ ≠ (.slice Ao35 y186.length co35 : Value).ownBlock ∧ some k_ ≠ (v190 : Value).ownBlock ∧ some k_ ≠ (.slice Ao43 y200.length co43 : Value).ownBlock ∧ some k_ ≠ (.slice Ao49 y210.length co49 : Value).ownBlock)) (by (with_reducible repeat (first | apply Kd.R_alloc | apply Kd.R_drewN | apply Kd.R_drew)); exact Kd.R_mono HO205.out (fun _ hk => ⟨⟨hk.1.2.1, ⟨hk.1.2.2.1, ⟨hk.1.2.2.2, hk.2⟩⟩⟩, hk.1.1⟩)) hg hat)
                                      have n5_ := Aside0.mk (Kd.R_after (ok := (fun k_ => some k_ ≠ (.slice Ao35 y186.length co35 : Value).ownBlock ∧ some k_ ≠ (v190 : Value).ownBlock ∧ some k_ ≠ (.slice Ao43 y200.length co43 : Value).ownBlock ∧ some k_ ≠ (v204 : Value).ownBlock)) (by (with_reducible repeat (first | apply Kd.R_alloc | apply Kd.R_drewN | apply Kd.R_drew)); exact Kd.R_mono HO212.out (fun _ hk => ⟨⟨hk.1.1.1.2, ⟨hk.1.1.2, ⟨hk.1.2, hk.2⟩⟩⟩, hk.1.1.1.1.2⟩)) hg hat)
                                      have n6_ := Aside0.mk (hb)
                                      have n7_ := Aside0.mk (ho)
                                      clear BK180
                                      clear HO188
                                      clear HO191
                                      clear HO202
                                      clear HO205
                                      clear HO212
                                      clear HB
                                      clear HO_10
                                      have BK180 := n0_
                                      have HO188 := n1_
                                      have HO191 := n2_
                                      have HO202 := n3_
                                      have HO205 := n4_
                                      have HO212 := n5_
                                      have HB := n6_
                                      have HO215 := n7_
                                      clear n0_ n1_ n2_ n3_ n4_ n5_ n6_ n7_
                                      clear ho hb hg hat
                                      refine hK.out _ _ ⟨((HB.out.cell (World.block_lt_of_cell? w _ hw206_0)).trans hw206_0), ((HB.out.cell (World.block_lt_of_cell? w _ hw206_1)).trans hw206_1), ((HB.out.cell (World.block_lt_of_cell? w _ hw207_0)).trans hw207_0), ((HB.out.cell (World.block_lt_of_cell? w _ hw207_1)).trans hw207_1)⟩ (fun hHeld => ?_)
                                      clear hK K
                                      refine norm_ (a' := ?_) ?_ ?_
                                      rotate_left
                                      · show Act.put _ (some 107) _ = _
                                        simp only [Act.put, List.setIfInBounds_toArray, List.set_cons_zero, List.set_cons_succ, i64_w, i32_w]
                                        rfl
                                      refine pure_ (i := 22) (N := some 10) (v := ?_) (a' := ?_) #[true, true, true, true, true, true, true, true, true, true, true, true, true, true, true, true, true, true, true, true, true, true, true] rfl rfl (any_of HT_.out (by kernel_rfl)) (fun _ _ _ h => h) (Or.inl ⟨by rfl, ?_⟩) ?_ ?_
                                      rotate_left
                                      · intro w'
                                        go_simp
                                        with_reducible rfl
                                      rotate_left
                                      · simp only [Act.put, List.setIfInBounds_toArray, List.set_cons_zero, List.set_cons_succ, i64_w, i32_w]
                                        rfl
                                      refine done_ (done_of HT_.out (by kernel_rfl)) ?_
                                      try go_wp2
                                      go_roundg k2
                                      case measure => have := HJ5.out; have := HK2.out; omega
                                      case rel => exact ⟨(y189), (y203), (y213), (wrap64 (x39_2 + 1)), (by first | rfl | (simp; done) | (simp [*]; done)), H', ⟨by have := HJ5.out; have := HK2.out; omega⟩, ⟨by (with_reducible repeat (first | apply Kd.R_alloc | apply Kd.R_drewN | apply Kd.R_drew)); exact Kd.R_mono HO191.out (fun _ hk => ⟨hk.1.2.2.1, hk.2⟩)⟩, ⟨by (with_reducible repeat (first | apply Kd.R_alloc | apply Kd.R_drewN | apply Kd.R_drew)); exact Kd.R_mono HO205.out (fun _ hk => ⟨hk.1.2.1, hk.2⟩)⟩, ⟨by (with_reducible repeat (first | apply Kd.R_alloc | apply Kd.R_drewN | apply Kd.R_drew)); exact Kd.R_mono HO215.out (fun _ hk => ⟨hk.2.1, hk.2.2.2.1⟩)⟩, ⟨by (with_reducible repeat (first | refine blk_drewN ?_ _ | refine blk_drew ?_ | refine blk_alloc ?_ _)); exact BK180.out⟩, ⟨by repeat (first | (with_reducible first | exact HB.out | apply below_alloc | apply pw_below_drewN | apply below_drew1 | refine below_set ?_ GE180.out) | exact HB.out)⟩⟩
                                    · rw [if_neg c29] at H
                                      exact absurd H (by simp)
                                  · rw [if_neg c27] at H
                                    exact absurd H (by simp)
                                · rw [if_neg c26] at H
                                  exact absurd H (by simp)
                              · rw [if_neg c24] at H
                                exact absurd H (by simp)
                            · rw [if_neg c20] at H
                              exact absurd H (by simp)
                          · rw [if_neg c19] at H
                            exact absurd H (by simp)
                      · rw [if_neg c16] at H
                        exact absurd H (by simp)
                    · rw [if_neg c14] at H
                      exact absurd H (by simp)
                  · rw [if_neg c13] at H
                    exact absurd H (by simp)
                · rw [if_neg c12] at H
                  have c12b0 : decide (x39_2 < (l0.length : Int)) = false := decide_eq_false c12
                  clear c12
                  replace H := Option.bind_eq_some_iff.mp H
                  obtain ⟨⟨t216, t217⟩, A500, H⟩ := H
                  replace H : ((gauss_Area.f k2 x9_2).bind fun bt218 => ((gauss_Area.f k2 x10_2).bind fun bt220 => (if 0 ≤ (wrap64 ((Int.tmod (wrap64 (a2)) (l0.length : Int)) + 1)) then (if (wrap64 ((Int.tmod (wrap64 (a2)) (l0.length : Int)) + 1)) ≤ (x8_2.length : Int) then ((gauss_Area.f k2 (x8_2.take ((wrap64 ((Int.tmod (wrap64 (a2)) (l0.length : Int)) + 1)) : Int).toNat)).bind fun bt226 => ((some (([] : List (S23)) : List (S23))).bind fun y228 => (if 0 ≤ (Int.tmod (wrap64 (a2)) (l0.length : Int)) then (if (Int.tmod (wrap64 (a2)) (l0.length : Int)) ≤ (x8_2.length : Int) then ((some (x8_2.drop ((Int.tmod (wrap64 (a2)) (l0.length : Int)) : Int).toNat : List (S23))).bind fun y231 => (if y228.length + y231.length < 8796093022208 then ((some (y228 ++ y231 : List (S23))).bind fun y235 => (if 0 < (x8_2.length : Int) then ((some (([(⟨(rd_T23 x8_2 0).f0, (rd_T23 x8_2 0).f1⟩ : S23)] : List (S23)) : List (S23))).bind fun y239 => (if y235.length + y239.length < 8796093022208 then ((gauss_Area.f k2 (y235 ++ y239)).bind fun bt245 => (if t217 = 0 then (if bt218.2 = 0 then (if bt220.2 = 0 then (if bt226.2 = 0 then (if bt245.2 = 0 then (if t216 = bt218.1 then (if t216 = (wrap64 (-bt220.1)) then (some (t216 == (wrap64 (bt226.1 + bt245.1)))) else (none)) else (none)) else (none)) else (none)) else (none)) else (none)) else (none))) else (none))) else (none))) else (none))) else (none)) else (none)))) else (none)) else (none)))) = some r := H
                  have A50 := Aside0.mk A500
                  clear A500
                  replace H := Option.bind_eq_some_iff.mp H
                  obtain ⟨⟨t218, t219⟩, A510, H⟩ := H
                  replace H : ((gauss_Area.f k2 x10_2).bind fun bt220 => (if 0 ≤ (wrap64 ((Int.tmod (wrap64 (a2)) (l0.length : Int)) + 1)) then (if (wrap64 ((Int.tmod (wrap64 (a2)) (l0.length : Int)) + 1)) ≤ (x8_2.length : Int) then ((gauss_Area.f k2 (x8_2.take ((wrap64 ((Int.tmod (wrap64 (a2)) (l0.length : Int)) + 1)) : Int).toNat)).bind fun bt226 => ((some (([] : List (S23)) : List (S23))).bind fun y228 => (if 0 ≤ (Int.tmod (wrap64 (a2)) (l0.length : Int)) then (if (Int.tmod (wrap64 (a2)) (l0.length : Int)) ≤ (x8_2.length : Int) then ((some (x8_2.drop ((Int.tmod (wrap64 (a2)) (l0.length : Int)) : Int).toNat : List (S23))).bind fun y231 => (if y228.length + y231.length < 8796093022208 then ((some (y228 ++ y231 : List (S23))).bind fun y235 => (if 0 < (x8_2.length : Int) then ((some (([(⟨(rd_T23 x8_2 0).f0, (rd_T23 x8_2 0).f1⟩ : S23)] : List (S23)) : List (S23))).bind fun y239 => (if y235.length + y239.length < 8796093022208 then ((gauss_Area.f k2 (y235 ++ y239)).bind fun bt245 => (if t217 = 0 then (if t219 = 0 then (if bt220.2 = 0 then (if bt226.2 = 0 then (if bt245.2 = 0 then (if t216 = t218 then (if t216 = (wrap64 (-bt220.1)) then (some (t216 == (wrap64 (bt226.1 + bt245.1)))) else (none)) else (none)) else (none)) else (none)) else (none)) else (none)) else (none))) else (none))) else (none))) else (none))) else (none)) else (none)))) else (none)) else (none))) = some r := H
                  have A51 := Aside0.mk A510
                  clear A510
                  replace H := Option.bind_eq_some_iff.mp H
                  obtain ⟨⟨t220, t221⟩, A520, H⟩ := H
                  replace H : (if 0 ≤ (wrap64 ((Int.tmod (wrap64 (a2)) (l0.length : Int)) + 1)) then (if (wrap64 ((Int.tmod (wrap64 (a2)) (l0.length : Int)) + 1)) ≤ (x8_2.length : Int) then ((gauss_Area.f k2 (x8_2.take ((wrap64 ((Int.tmod (wrap64 (a2)) (l0.length : Int)) + 1)) : Int).toNat)).bind fun bt226 => ((some (([] : List (S23)) : List (S23))).bind fun y228 => (if 0 ≤ (Int.tmod (wrap64 (a2)) (l0.length : Int)) then (if (Int.tmod (wrap64 (a2)) (l0.length : Int)) ≤ (x8_2.length : Int) then ((some (x8_2.drop ((Int.tmod (wrap64 (a2)) (l0.length : Int)) : Int).toNat : List (S23))).bind fun y231 => (if y228.length + y231.length < 8796093022208 then ((some (y228 ++ y231 : List (S23))).bind fun y235 => (if 0 < (x8_2.length : Int) then ((some (([(⟨(rd_T23 x8_2 0).f0, (rd_T23 x8_2 0).f1⟩ : S23)] : List (S23)) : List (S23))).bind fun y239 => (if y235.length + y239.length < 8796093022208 then ((gauss_Area.f k2 (y235 ++ y239)).bind fun bt245 => (if t217 = 0 then (if t219 = 0 then (if t221 = 0 then (if bt226.2 = 0 then (if bt245.2 = 0 then (if t216 = t218 then (if t216 = (wrap64 (-t220)) then (some (t216 == (wrap64 (bt226.1 + bt245.1)))) else (none)) else (none)) else (none)) else (none)) else (none)) else (none)) else (none))) else (none))) else (none))) else (none))) else (none)) else (none)))) else (none)) else (none)) = some r := H
                  have A52 := Aside0.mk A520
                  clear A520
                  obtain ⟨ji53, hji53⟩ : ∃ j_ : Int, (wrap64 ((Int.tmod (wrap64 (a2)) (l0.length : Int)) + 1)) = j_ := ⟨_, rfl⟩
                  replace H : (if 0 ≤ (ji53) then (if (ji53) ≤ (x8_2.length : Int) then ((gauss_Area.f k2 (x8_2.take ((ji53) : Int).toNat)).bind fun bt226 => ((some (([] : List (S23)) : List (S23))).bind fun y228 => (if 0 ≤ (Int.tmod (wrap64 (a2)) (l0.length : Int)) then (if (Int.tmod (wrap64 (a2)) (l0.length : Int)) ≤ (x8_2.length : Int) then ((some (x8_2.drop ((Int.tmod (wrap64 (a2)) (l0.length : Int)) : Int).toNat : List (S23))).bind fun y231 => (if y228.length + y231.length < 8796093022208 then ((some (y228 ++ y231 : List (S23))).bind fun y235 => (if 0 < (x8_2.length : Int) then ((some (([(⟨(rd_T23 x8_2 0).f0, (rd_T23 x8_2 0).f1⟩ : S23)] : List (S23)) : List (S23))).bind fun y239 => (if y235.length + y239.length < 8796093022208 then ((gauss_Area.f k2 (y235 ++ y239)).bind fun bt245 => (if t217 = 0 then (if t219 = 0 then (if t221 = 0 then (if bt226.2 = 0 then (if bt245.2 = 0 then (if t216 = t218 then (if t216 = (wrap64 (-t220)) then (some (t216 == (wrap64 (bt226.1 + bt245.1)))) else (none)) else (none)) else (none)) else (none)) else (none)) else (none)) else (none))) else (none))) else (none))) else (none))) else (none)) else (none)))) else (none)) else (none)) = some r := by first | (rw [hji53] at H; exact H) | (simp only [hji53] at H ⊢; exact H)
                  (try rw [hji53] at A50)
                  (try rw [hji53] at A51)
                  (try rw [hji53] at A52)
                  have hji53w : (IntKind.i64.wrap ((Int.tmod (wrap64 (a2)) (l0.length : Int)) + 1)) = ji53 := (i64_w _).trans hji53
                  by_cases c54 : 0 ≤ (ji53)
                  · rw [if_pos c54] at H
                    have c54b0 := eq_true c54
                    have c54b1 : decide (0 ≤ (ji53)) = true := decide_eq_true c54
                    clear c54
                    by_cases c55 : (ji53) ≤ (x8_2.length : Int)
                    · rw [if_pos c55] at H
                      have c55b0 := eq_true c55
                      have c55b1 : decide ((ji53) ≤ (x8_2.length : Int)) = true := decide_eq_true c55
                      clear c55
                      obtain ⟨y222, hy222⟩ : ∃ y_ : List (S23), y_ = (x8_2.take ((ji53) : Int).toNat) := ⟨_, rfl⟩
                      replace H : ((gauss_Area.f k2 y222).bind fun bt226 => ((some (([] : List (S23)) : List (S23))).bind fun y228 => (if 0 ≤ (Int.tmod (wrap64 (a2)) (l0.length : Int)) then (if (Int.tmod (wrap64 (a2)) (l0.length : Int)) ≤ (x8_2.length : Int) then ((some (x8_2.drop ((Int.tmod (wrap64 (a2)) (l0.length : Int)) : Int).toNat : List (S23))).bind fun y231 => (if y228.length + y231.length < 8796093022208 then ((some (y228 ++ y231 : List (S23))).bind fun y235 => (if 0 < (x8_2.length : Int) then ((some (([(⟨(rd_T23 x8_2 0).f0, (rd_T23 x8_2 0).f1⟩ : S23)] : List (S23)) : List (S23))).bind fun y239 => (if y235.length + y239.length < 8796093022208 then ((gauss_Area.f k2 (y235 ++ y239)).bind fun bt245 => (if t217 = 0 then (if t219 = 0 then (if t221 = 0 then (if bt226.2 = 0 then (if bt245.2 = 0 then (if t216 = t218 then (if t216 = (wrap64 (-t220)) then (some (t216 == (wrap64 (bt226.1 + bt245.1)))) else (none)) else (none)) else (none)) else (none)) else (none)) else (none)) else (none))) else (none))) else (none))) else (none))) else (none)) else (none)))) = some r := by first | (rw [hy222]; with_reducible exact H) | (have H2_ := (Option.bind_some _ _).symm.trans H; rw [hy222]; with_reducible exact H2_) | (have H2_ := (Option.bind_some _ _).symm.trans H; with_reducible exact H2_) | with_reducible exact H | (rw [hy222]; exact H) | exact H
                      have Ny222 := Aside0.mk hy222
                      clear hy222
                      replace H := Option.bind_eq_some_iff.mp H
                      obtain ⟨⟨t226, t227⟩, A560, H⟩ := H
                      replace H : ((some (([] : List (S23)) : List (S23))).bind fun y228 => (if 0 ≤ (Int.tmod (wrap64 (a2)) (l0.length : Int)) then (if (Int.tmod (wrap64 (a2)) (l0.length : Int)) ≤ (x8_2.length : Int) then ((some (x8_2.drop ((Int.tmod (wrap64 (a2)) (l0.length : Int)) : Int).toNat : List (S23))).bind fun y231 => (if y228.length + y231.length < 8796093022208 then ((some (y228 ++ y231 : List (S23))).bind fun y235 => (if 0 < (x8_2.length : Int) then ((some (([(⟨(rd_T23 x8_2 0).f0, (rd_T23 x8_2 0).f1⟩ : S23)] : List (S23)) : List (S23))).bind fun y239 => (if y235.length + y239.length < 8796093022208 then ((gauss_Area.f k2 (y235 ++ y239)).bind fun bt245 => (if t217 = 0 then (if t219 = 0 then (if t221 = 0 then (if t227 = 0 then (if bt245.2 = 0 then (if t216 = t218 then (if t216 = (wrap64 (-t220)) then (some (t216 == (wrap64 (t226 + bt245.1)))) else (none)) else (none)) else (none)) else (none)) else (none)) else (none)) else (none))) else (none))) else (none))) else (none))) else (none)) else (none))) = some r := H
                      have A56 := Aside0.mk A560
                      clear A560
                      obtain ⟨y228, hy228⟩ : ∃ y_ : List (S23), y_ = (([] : List (S23))) := ⟨_, rfl⟩
                      replace H : (if 0 ≤ (Int.tmod (wrap64 (a2)) (l0.length : Int)) then (if (Int.tmod (wrap64 (a2)) (l0.length : Int)) ≤ (x8_2.length : Int) then ((some (x8_2.drop ((Int.tmod (wrap64 (a2)) (l0.length : Int)) : Int).toNat : List (S23))).bind fun y231 => (if y228.length + y231.length < 8796093022208 then ((some (y228 ++ y231 : List (S23))).bind fun y235 => (if 0 < (x8_2.length : Int) then ((some (([(⟨(rd_T23 x8_2 0).f0, (rd_T23 x8_2 0).f1⟩ : S23)] : List (S23)) : List (S23))).bind fun y239 => (if y235.length + y239.length < 8796093022208 then ((gauss_Area.f k2 (y235 ++ y239)).bind fun bt245 => (if t217 = 0 then (if t219 = 0 then (if t221 = 0 then (if t227 = 0 then (if bt245.2 = 0 then (if t216 = t218 then (if t216 = (wrap64 (-t220)) then (some (t216 == (wrap64 (t226 + bt245.1)))) else (none)) else (none)) else (none)) else (none)) else (none)) else (none)) else (none))) else (none))) else (none))) else (none))) else (none)) else (none)) = some r := by first | (rw [hy228]; with_reducible exact H) | (have H2_ := (Option.bind_some _ _).symm.trans H; rw [hy228]; with_reducible exact H2_) | (have H2_ := (Option.bind_some _ _).symm.trans H; with_reducible exact H2_) | with_reducible exact H | (rw [hy228]; exact H) | exact H
                      have Ny228 := Aside0.mk hy228
                      clear hy228
                      obtain ⟨ji57, hji57⟩ : ∃ j_ : Int, (Int.tmod (wrap64 (a2)) (l0.length : Int)) = j_ := ⟨_, rfl⟩
                      (try rw [hji57] at hji53)
                      (try rw [hji57] at hji53w)
                      replace H : (if 0 ≤ (ji57) then (if (ji57) ≤ (x8_2.length : Int) then ((some (x8_2.drop ((ji57) : Int).toNat : List (S23))).bind fun y231 => (if y228.length + y231.length < 8796093022208 then ((some (y228 ++ y231 : List (S23))).bind fun y235 => (if 0 < (x8_2.length : Int) then ((some (([(⟨(rd_T23 x8_2 0).f0, (rd_T23 x8_2 0).f1⟩ : S23)] : List (S23)) : List (S23))).bind fun y239 => (if y235.length + y239.length < 8796093022208 then ((gauss_Area.f k2 (y235 ++ y239)).bind fun bt245 => (if t217 = 0 then (if t219 = 0 then (if t221 = 0 then (if t227 = 0 then (if bt245.2 = 0 then (if t216 = t218 then (if t216 = (wrap64 (-t220)) then (some (t216 == (wrap64 (t226 + bt245.1)))) else (none)) else (none)) else (none)) else (none)) else (none)) else (none)) else (none))) else (none))) else (none))) else (none))) else (none)) else (none)) = some r := by first | (rw [hji57] at H; exact H) | (simp only [hji57] at H ⊢; exact H)
                      (try rw [hji57] at A50)
                      (try rw [hji57] at A51)
                      (try rw [hji57] at A52)
                      (try rw [hji57] at A56)
                      by_cases c58 : 0 ≤ (ji57)
                      · rw [if_pos c58] at H
                        have c58b0 := eq_true c58
                        have c58b1 : decide (0 ≤ (ji57)) = true := decide_eq_true c58
                        clear c58
                        by_cases c59 : (ji57) ≤ (x8_2.length : Int)
                        · rw [if_pos c59] at H
                          have c59b0 := eq_true c59
                          have c59b1 : decide ((ji57) ≤ (x8_2.length : Int)) = true := decide_eq_true c59
                          clear c59
                          obtain ⟨y231, hy231⟩ : ∃ y_ : List (S23), y_ = (x8_2.drop ((ji57) : Int).toNat) := ⟨_, rfl⟩
                          replace H : (if y228.length + y231.length < 8796093022208 then ((some (y228 ++ y231 : List (S23))).bind fun y235 => (if 0 < (x8_2.length : Int) then ((some (([(⟨(rd_T23 x8_2 0).f0, (rd_T23 x8_2 0).f1⟩ : S23)] : List (S23)) : List (S23))).bind fun y239 => (if y235.length + y239.length < 8796093022208 then ((gauss_Area.f k2 (y235 ++ y239)).bind fun bt245 => (if t217 = 0 then (if t219 = 0 then (if t221 = 0 then (if t227 = 0 then (if bt245.2 = 0 then (if t216 = t218 then (if t216 = (wrap64 (-t220)) then (some (t216 == (wrap64 (t226 + bt245.1)))) else (none)) else (none)) else (none)) else (none)) else (none)) else (none)) else (none))) else (none))) else (none))) else (none)) = some r := by first | (rw [hy231]; with_reducible exact H) | (have H2_ := (Option.bind_some _ _).symm.trans H; rw [hy231]; with_reducible exact H2_) | (have H2_ := (Option.bind_some _ _).symm.trans H; with_reducible exact H2_) | with_reducible exact H | (rw [hy231]; exact H) | exact H
                          have Ny231 := Aside0.mk hy231
                          clear hy231
                          by_cases c60 : y228.length + y231.length < 8796093022208
                          · rw [if_pos c60] at H
                            have LMc60 := Aside0.mk c60
                            clear c60
                            obtain ⟨y235, hy235⟩ : ∃ y_ : List (S23), y_ = (y228 ++ y231) := ⟨_, rfl⟩
                            replace H : (if 0 < (x8_2.length : Int) then ((some (([(⟨(rd_T23 x8_2 0).f0, (rd_T23 x8_2 0).f1⟩ : S23)] : List (S23)) : List (S23))).bind fun y239 => (if y235.length + y239.length < 8796093022208 then ((gauss_Area.f k2 (y235 ++ y239)).bind fun bt245 => (if t217 = 0 then (if t219 = 0 then (if t221 = 0 then (if t227 = 0 then (if bt245.2 = 0 then (if t216 = t218 then (if t216 = (wrap64 (-t220)) then (some (t216 == (wrap64 (t226 + bt245.1)))) else (none)) else (none)) else (none)) else (none)) else (none)) else (none)) else (none))) else (none))) else (none)) = some r := by first | (rw [hy235]; with_reducible exact H) | (have H2_ := (Option.bind_some _ _).symm.trans H; rw [hy235]; with_reducible exact H2_) | (have H2_ := (Option.bind_some _ _).symm.trans H; with_reducible exact H2_) | with_reducible exact H | (rw [hy235]; exact H) | exact H
                            have Ny235 := Aside0.mk hy235
                            clear hy235
                            by_cases c61 : 0 < (x8_2.length : Int)
                            · rw [if_pos c61] at H
                              have c61b0 : decide (0 < (x8_2.length : Int)) = true := decide_eq_true c61
                              have c61b1 : decide (0 < x8_2.length) = true := decide_eq_true (by omega)
                              clear c61
                              obtain ⟨y239, hy239⟩ : ∃ y_ : List (S23), y_ = (([(⟨(rd_T23 x8_2 0).f0, (rd_T23 x8_2 0).f1⟩ : S23)] : List (S23))) := ⟨_, rfl⟩
                              replace H : (if y235.length + y239.length < 8796093022208 then ((gauss_Area.f k2 (y235 ++ y239)).bind fun bt245 => (if t217 = 0 then (if t219 = 0 then (if t221 = 0 then (if t227 = 0 then (if bt245.2 = 0 then (if t216 = t218 then (if t216 = (wrap64 (-t220)) then (some (t216 == (wrap64 (t226 + bt245.1)))) else (none)) else (none)) else (none)) else (none)) else (none)) else (none)) else (none))) else (none)) = some r := by first | (rw [hy239]; with_reducible exact H) | (have H2_ := (Option.bind_some _ _).symm.trans H; rw [hy239]; with_reducible exact H2_) | (have H2_ := (Option.bind_some _ _).symm.trans H; with_reducible exact H2_) | with_reducible exact H | (rw [hy239]; exact H) | exact H
                              have Ny239 := Aside0.mk hy239
                              clear hy239
                              by_cases c62 : y235.length + y239.length < 8796093022208
                              · rw [if_pos c62] at H
                                have LMc62 := Aside0.mk c62
                                clear c62
                                obtain ⟨y242, hy242⟩ : ∃ y_ : List (S23), y_ = (y235 ++ y239) := ⟨_, rfl⟩
                                replace H : ((gauss_Area.f k2 y242).bind fun bt245 => (if t217 = 0 then (if t219 = 0 then (if t221 = 0 then (if t227 = 0 then (if bt245.2 = 0 then (if t216 = t218 then (if t216 = (wrap64 (-t220)) then (some (t216 == (wrap64 (t226 + bt245.1)))) else (none)) else (none)) else (none)) else (none)) else (none)) else (none)) else (none))) = some r := by first | (rw [hy242]; with_reducible exact H) | (have H2_ := (Option.bind_some _ _).symm.trans H; rw [hy242]; with_reducible exact H2_) | (have H2_ := (Option.bind_some _ _).symm.trans H; with_reducible exact H2_) | with_reducible exact H | (rw [hy242]; exact H) | exact H
                                have Ny242 := Aside0.mk hy242
                                clear hy242
                                replace H := Option.bind_eq_some_iff.mp H
                                obtain ⟨⟨t245, t246⟩, A630, H⟩ := H
                                replace H : (if t217 = 0 then (if t219 = 0 then (if t221 = 0 then (if t227 = 0 then (if t246 = 0 then (if t216 = t218 then (if t216 = (wrap64 (-t220)) then (some (t216 == (wrap64 (t226 + t245)))) else (none)) else (none)) else (none)) else (none)) else (none)) else (none)) else (none)) = some r := H
                                have A63 := Aside0.mk A630
                                clear A630
                                by_cases c64 : t217 = 0
                                · rw [if_pos c64] at H
                                  have c64b0 : (t217 == 0) = true := beq_iff_eq.mpr c64
                                  have c64b1 : (t217 != 0) = false := bne_eq_false_iff_eq.mpr c64
                                  clear c64
                                  by_cases c65 : t219 = 0
                                  · rw [if_pos c65] at H
                                    have c65b0 : (t219 == 0) = true := beq_iff_eq.mpr c65
                                    have c65b1 : (t219 != 0) = false := bne_eq_false_iff_eq.mpr c65
                                    clear c65
                                    by_cases c66 : t221 = 0
                                    · rw [if_pos c66] at H
                                      have c66b0 : (t221 == 0) = true := beq_iff_eq.mpr c66
                                      have c66b1 : (t221 != 0) = false := bne_eq_false_iff_eq.mpr c66
                                      clear c66
                                      by_cases c67 : t227 = 0
                                      · rw [if_pos c67] at H
                                        have c67b0 : (t227 == 0) = true := beq_iff_eq.mpr c67
                                        have c67b1 : (t227 != 0) = false := bne_eq_false_iff_eq.mpr c67
                                        clear c67
                                        by_cases c68 : t246 = 0
                                        · rw [if_pos c68] at H
                                          have c68b0 : (t246 == 0) = true := beq_iff_eq.mpr c68
                                          have c68b1 : (t246 != 0) = false := bne_eq_false_iff_eq.mpr c68
                                          clear c68
                                          by_cases c69 : t216 = t218
                                          · rw [if_pos c69] at H
                                            have c69b0 : (t216 == t218) = true := beq_iff_eq.mpr c69
                                            have c69b1 : (t216 != t218) = false := bne_eq_false_iff_eq.mpr c69
                                            clear c69
                                            by_cases c70 : t216 = (wrap64 (-t220))
                                            · rw [if_pos c70] at H
                                              have c70b0 : (t216 == (wrap64 (-t220))) = true := beq_iff_eq.mpr c70
                                              have c70b1 : (t216 != (wrap64 (-t220))) = false := bne_eq_false_iff_eq.mpr c70
                                              clear c70
                                              obtain rfl := Option.some.inj H
                                              obtain ⟨Ao71, co71, eo71⟩ := Kd.R_slice HO_8.out
                                              subst eo71
                                              try go_wp2_with (first | ((with_reducible refine gate_callee (f := 22) rfl ?_); refine goesL_ (some 111) rfl rfl Try.func22 (by kernel_rfl) rfl #[.slice Ao71 x8_2.length co71] rfl (by (try simp only [List.map_toArray, List.map_cons, List.map_nil]); first | done | rfl | (simp only [List.length_drop, List.length_take]; rfl)) ?_; (with_reducible refine (gauss_Area.calls k2 _ _ x8_2 t216 t217 _ ?side1 ?side2 A50.out).mono ?_); (case side1 => repeat (first | exact (Kd.R_reads' HO_8.out).2.2 | (with_reducible refine Kd.C_alloc ?_ _) | (with_reducible refine Kd.C_drewN ?_ _) | (with_reducible refine Kd.C_drew ?_))); (case side2 => exact (Kd.R_reads' HO_8.out).2.1); rintro e w72 ⟨rfl, hb⟩; refine ⟨_, rfl, ?_⟩; have n0_ := Aside0.mk (Kd.R_below (by (with_reducible repeat (first | apply Kd.R_alloc | apply Kd.R_drewN | apply Kd.R_drew)); exact HO_8.out) hb); have n1_ := Aside0.mk (Kd.R_below (by (with_reducible repeat (first | apply Kd.R_alloc | apply Kd.R_drewN | apply Kd.R_drew)); exact HO_9.out) hb); have n2_ := Aside0.mk (Kd.R_below (by (with_reducible repeat (first | apply Kd.R_alloc | apply Kd.R_drewN | apply Kd.R_drew)); exact HO_10.out) hb); have n3_ := Aside0.mk (blk_below (g := gb180) (o := .cells #[.int .i32 a1_0, .int .i32 a1_1] 44 (0, 0)) (by (with_reducible repeat (first | refine blk_drewN ?_ _ | refine blk_drew ?_ | refine blk_alloc ?_ _)); exact BK180.out) hb); have n4_ := Aside0.mk (below_step (by repeat (first | (with_reducible first | exact HB.out | apply below_alloc | apply pw_below_drewN | apply below_drew1 | refine below_set ?_ GE180.out) | exact HB.out)) hb); clear HO_8; clear HO_9; clear HO_10; clear BK180; clear HB; have HO_8 := n0_; have HO_9 := n1_; have HO_10 := n2_; have BK180 := n3_; have HB := n4_; clear n0_ n1_ n2_ n3_ n4_; (try clear hb); (try clear hb2); (try clear hk); (try clear hi); obtain ⟨Ao73, co73, eo73⟩ := Kd.R_slice HO_9.out; subst eo73) | ((with_reducible refine gate_callee (f := 22) rfl ?_); refine goesL_ (some 116) rfl rfl Try.func22 (by kernel_rfl) rfl #[.slice Ao73 x9_2.length co73] rfl (by (try simp only [List.map_toArray, List.map_cons, List.map_nil]); first | done | rfl | (simp only [List.length_drop, List.length_take]; rfl)) ?_; (with_reducible refine (gauss_Area.calls k2 _ _ x9_2 t218 t219 _ ?side1 ?side2 A51.out).mono ?_); (case side1 => repeat (first | exact (Kd.R_reads' HO_9.out).2.2 | (with_reducible refine Kd.C_alloc ?_ _) | (with_reducible refine Kd.C_drewN ?_ _) | (with_reducible refine Kd.C_drew ?_))); (case side2 => exact (Kd.R_reads' HO_9.out).2.1); rintro e w74 ⟨rfl, hb⟩; refine ⟨_, rfl, ?_⟩; have n0_ := Aside0.mk (Kd.R_below (by (with_reducible repeat (first | apply Kd.R_alloc | apply Kd.R_drewN | apply Kd.R_drew)); exact HO_8.out) hb); have n1_ := Aside0.mk (Kd.R_below (by (with_reducible repeat (first | apply Kd.R_alloc | apply Kd.R_drewN | apply Kd.R_drew)); exact HO_9.out) hb); have n2_ := Aside0.mk (Kd.R_below (by (with_reducible repeat (first | apply Kd.R_alloc | apply Kd.R_drewN | apply Kd.R_drew)); exact HO_10.out) hb); have n3_ := Aside0.mk (blk_below (g := gb180) (o := .cells #[.int .i32 a1_0, .int .i32 a1_1] 44 (0, 0)) (by (with_reducible repeat (first | refine blk_drewN ?_ _ | refine blk_drew ?_ | refine blk_alloc ?_ _)); exact BK180.out) hb); have n4_ := Aside0.mk (below_step (by repeat (first | (with_reducible first | exact HB.out | apply below_alloc | apply pw_below_drewN | apply below_drew1 | refine below_set ?_ GE180.out) | exact HB.out)) hb); clear HO_8; clear HO_9; clear HO_10; clear BK180; clear HB; have HO_8 := n0_; have HO_9 := n1_; have HO_10 := n2_; have BK180 := n3_; have HB := n4_; clear n0_ n1_ n2_ n3_ n4_; (try clear hb); (try clear hb2); (try clear hk); (try clear hi); obtain ⟨Ao75, co75, eo75⟩ := Kd.R_slice HO_10.out; subst eo75) | ((with_reducible refine gate_callee (f := 22) rfl ?_); refine goesL_ (some 121) rfl rfl Try.func22 (by kernel_rfl) rfl #[.slice Ao75 x10_2.length co75] rfl (by (try simp only [List.map_toArray, List.map_cons, List.map_nil]); first | done | rfl | (simp only [List.length_drop, List.length_take]; rfl)) ?_; (with_reducible refine (gauss_Area.calls k2 _ _ x10_2 t220 t221 _ ?side1 ?side2 A52.out).mono ?_); (case side1 => repeat (first | exact (Kd.R_reads' HO_10.out).2.2 | (with_reducible refine Kd.C_alloc ?_ _) | (with_reducible refine Kd.C_drewN ?_ _) | (with_reducible refine Kd.C_drew ?_))); (case side2 => exact (Kd.R_reads' HO_10.out).2.1); rintro e w76 ⟨rfl, hb⟩; refine ⟨_, rfl, ?_⟩; have n0_ := Aside0.mk (Kd.R_below (by (with_reducible repeat (first | apply Kd.R_alloc | apply Kd.R_drewN | apply Kd.R_drew)); exact HO_8.out) hb); have n1_ := Aside0.mk (Kd.R_below (by (with_reducible repeat (first | apply Kd.R_alloc | apply Kd.R_drewN | apply Kd.R_drew)); exact HO_9.out) hb); have n2_ := Aside0.mk (Kd.R_below (by (with_reducible repeat (first | apply Kd.R_alloc | apply Kd.R_drewN | apply Kd.R_drew)); exact HO_10.out) hb); have n3_ := Aside0.mk (blk_below (g := gb180) (o := .cells #[.int .i32 a1_0, .int .i32 a1_1] 44 (0, 0)) (by (with_reducible repeat (first | refine blk_drewN ?_ _ | refine blk_drew ?_ | refine blk_alloc ?_ _)); exact BK180.out) hb); have n4_ := Aside0.mk (below_step (by repeat (first | (with_reducible first | exact HB.out | apply below_alloc | apply pw_below_drewN | apply below_drew1 | refine below_set ?_ GE180.out) | exact HB.out)) hb); clear HO_8; clear HO_9; clear HO_10; clear BK180; clear HB; have HO_8 := n0_; have HO_9 := n1_; have HO_10 := n2_; have BK180 := n3_; have HB := n4_; clear n0_ n1_ n2_ n3_ n4_; (try clear hb); (try clear hb2); (try clear hk); (try clear hi); have q77 : ((ji53) : Int) ≤ ((x8_2.length : Int) : Int) := of_decide_eq_true (by first | (with_reducible assumption) | assumption); obtain ⟨i077, hi077, _, hsz77, _⟩ := info_parts info23; have hroom77 : x8_2.length ≤ co71 := (Kd.R_reads' HO_8.out).2.1; have hC77 : Kd.C k23 _ Ao71 x8_2.length x8_2 := (Kd.R_reads' HO_8.out).2.2; have hcut77 := cut_to (P := Try.prog) 34 23 .i64 Try.underlying34 hi077 Ao71 x8_2.length co71 (ji53) (of_decide_eq_true (by first | (with_reducible assumption) | assumption)) q77 hroom77; have hr77 := Kd.C_take (m := ((ji53) : Int).toNat) hC77 (by omega); have hy77 : y222.length = ((ji53) : Int).toNat := (by rw [Ny222.out, List.length_take]; omega); rw [← Ny222.out] at hr77; rw [← hy77] at hcut77; have HR225 := Aside0.mk hr77; have HC225 := Aside0.mk (show y222.length ≤ co71 from by omega); clear hr77 hC77 hroom77 hi077 hsz77; have KY77 := Aside0.mk hy77; clear hy77; have KL77 := Aside0.mk (show ((ji53) : Int).toNat ≤ x8_2.length from by omega); replace q77 := eq_true q77) | ((with_reducible refine gate_callee (f := 22) rfl ?_); refine goesL_ (some 129) rfl rfl Try.func22 (by kernel_rfl) rfl #[.slice Ao71 y222.length co71] rfl (by (try simp only [List.map_toArray, List.map_cons, List.map_nil]); first | done | rfl | (simp only [List.length_drop, List.length_take]; rfl)) ?_; (with_reducible refine (gauss_Area.calls k2 _ _ y222 t226 t227 _ ?side1 ?side2 A56.out).mono ?_); (case side1 => repeat (first | exact (by repeat (first | (with_reducible exact HR225.out) | (with_reducible refine Kd.C_alloc ?_ _) | (with_reducible refine Kd.C_drewN ?_ _) | (with_reducible refine Kd.C_drew ?_) | exact HR225.out)) | (with_reducible refine Kd.C_alloc ?_ _) | (with_reducible refine Kd.C_drewN ?_ _) | (with_reducible refine Kd.C_drew ?_))); (case side2 => exact HC225.out); rintro e w78 ⟨rfl, hb⟩; refine ⟨_, rfl, ?_⟩; have n0_ := Aside0.mk (Kd.R_below (by (with_reducible repeat (first | apply Kd.R_alloc | apply Kd.R_drewN | apply Kd.R_drew)); exact HO_8.out) hb); have n1_ := Aside0.mk (Kd.R_below (by (with_reducible repeat (first | apply Kd.R_alloc | apply Kd.R_drewN | apply Kd.R_drew)); exact HO_9.out) hb); have n2_ := Aside0.mk (Kd.R_below (by (with_reducible repeat (first | apply Kd.R_alloc | apply Kd.R_drewN | apply Kd.R_drew)); exact HO_10.out) hb); have n3_ := Aside0.mk (blk_below (g := gb180) (o := .cells #[.int .i32 a1_0, .int .i32 a1_1] 44 (0, 0)) (by (with_reducible repeat (first | refine blk_drewN ?_ _ | refine blk_drew ?_ | refine blk_alloc ?_ _)); exact BK180.out) hb); have n4_ := Aside0.mk (Kd.C_below (by repeat (first | (with_reducible exact HR225.out) | (with_reducible refine Kd.C_alloc ?_ _) | (with_reducible refine Kd.C_drewN ?_ _) | (with_reducible refine Kd.C_drew ?_) | exact HR225.out)) hb); have n5_ := Aside0.mk (below_step (by repeat (first | (with_reducible first | exact HB.out | apply below_alloc | apply pw_below_drewN | apply below_drew1 | refine below_set ?_ GE180.out) | exact HB.out)) hb); clear HO_8; clear HO_9; clear HO_10; clear BK180; clear HR225; clear HB; have HO_8 := n0_; have HO_9 := n1_; have HO_10 := n2_; have BK180 := n3_; have HR225 := n4_; have HB := n5_; clear n0_ n1_ n2_ n3_ n4_ n5_; (try clear hb); (try clear hb2); (try clear hk); (try clear hi)))
                                              have n0_ := Aside0.mk (Kd.R_drew HO_8.out)
                                              have n1_ := Aside0.mk (Kd.R_drew HO_9.out)
                                              have n2_ := Aside0.mk (Kd.R_drew HO_10.out)
                                              have n3_ := Aside0.mk (blk_drew BK180.out)
                                              have n4_ := Aside0.mk (Kd.C_drew HR225.out)
                                              have n5_ := Aside0.mk (below_drew1 HB.out)
                                              clear HO_8
                                              clear HO_9
                                              clear HO_10
                                              clear BK180
                                              clear HR225
                                              clear HB
                                              have HO_8 := n0_
                                              have HO_9 := n1_
                                              have HO_10 := n2_
                                              have BK180 := n3_
                                              have HR225 := n4_
                                              have HB := n5_
                                              clear n0_ n1_ n2_ n3_ n4_ n5_
                                              have q80 : ((ji57) : Int) ≤ ((x8_2.length : Int) : Int) := of_decide_eq_true (by first | (with_reducible assumption) | assumption)
                                              obtain ⟨i080, hi080, _, hsz80, _⟩ := info_parts info23
                                              have hroom80 : x8_2.length ≤ co71 := (Kd.R_reads' HO_8.out).2.1
                                              have hC80 : Kd.C k23 _ Ao71 x8_2.length x8_2 := (Kd.R_reads' HO_8.out).2.2
                                              have q080 : (0 : Int) ≤ ((ji57) : Int) := of_decide_eq_true (by first | (with_reducible assumption) | assumption)
                                              have hcut80 := cut_from (P := Try.prog) 34 23 .i64 Try.underlying34 hi080 2 hsz80 Ao71 x8_2.length co71 (ji57) q080 q80
                                              have hr80 := Kd.C_drop (m := ((ji57) : Int).toNat) (c := co71) hC80 (by omega) hroom80
                                              obtain ⟨A80, hA80⟩ : ∃ A1, A1 = (if co71 = ((ji57) : Int).toNat then Ao71 else (Ao71 : Option Addr).map (·.add (((ji57) : Int).toNat * 2))) := ⟨_, rfl⟩
                                              obtain ⟨c80, hc80⟩ : ∃ c1, c1 = co71 - ((ji57) : Int).toNat := ⟨_, rfl⟩
                                              have hy80 : y231.length = x8_2.length - ((ji57) : Int).toNat := (by rw [Ny231.out, List.length_drop] <;> omega)
                                              rw [show (x8_2).drop ((ji57) : Int).toNat = y231 from Ny231.out.symm] at hr80
                                              replace hr80 : Kd.C k23 _ A80 y231.length y231 := (by rw [hA80]; exact hr80)
                                              rw [← hy80, ← hA80, ← hc80] at hcut80
                                              have HR234 := Aside0.mk hr80
                                              have HC234 := Aside0.mk (show y231.length ≤ c80 from by rw [hy80, hc80]; exact Nat.sub_le_sub_right hroom80 _)
                                              clear hr80 hC80 hroom80 hi080 hsz80 hc80
                                              have KY80 := Aside0.mk hy80
                                              have KA80 := Aside0.mk hA80
                                              clear hy80 hA80
                                              have KL80 := Aside0.mk (show ((ji57) : Int).toNat ≤ x8_2.length from by omega)
                                              replace q80 := eq_true q80
                                              have p238 : 0 ≤ (0 : Int) := (by omega)
                                              have q238 : 0 < (x8_2.length : Int) := of_decide_eq_true (by first | (with_reducible assumption) | assumption)
                                              obtain ⟨ad238, e238, hx238_0, hx238_1⟩ := at_T23 (Kd.R_reads' HO_8.out).2.2 0 p238 q238
                                              cases e238
                                              have qi238 : (0 < x8_2.length) = True := eq_true (by omega)
                                              (try rw [show ((0 : Int)).toNat = 0 from rfl] at hx238_0)
                                              (try rw [show 0 * 2 = 0 from rfl] at hx238_0)
                                              (try rw [Addr.add_zero'] at hx238_0)
                                              (try rw [show ((0 : Int)).toNat = 0 from rfl] at hx238_1)
                                              (try rw [show 0 * 2 = 0 from rfl] at hx238_1)
                                              (try rw [Addr.add_zero'] at hx238_1)
                                              replace p238 := eq_true p238
                                              replace q238 := eq_true q238
                                              refine start_ (n := 16) (S := fun w' => w'.cell? ad238 = some (.int .i64 ((rd_T23 x8_2 0).f0)) ∧ w'.cell? ⟨ad238.block, ad238.off + 1, none⟩ = some (.int .i64 ((rd_T23 x8_2 0).f1))) (ds := []) #[false, false, false, false, false, false, false, false, false, false, false, false, false, false, false, false] (by kernel_rfl) rfl rfl ⟨hx238_0, hx238_1⟩ (fun hHeld => ?_); refine with_tabW calamuslaw10_GaussWays.tab18 calamuslaw10_GaussWays.bits18 (fun HT_ HW_ => ?_)
                                              generalize w78.drew = w79 at HO_8 HO_9 HO_10 BK180 HR225 HB HR234 hx238_0 hx238_1 hHeld ⊢
                                              refine pure_ (i := 1) (N := some 134) (v := ?_) (a' := ?_) #[false, true, false, false, false, false, false, false, false, false, false, false, false, false, false, false] rfl rfl (any_of HT_.out (by kernel_rfl)) (fun _ _ _ h => h) (Or.inl ⟨by rfl, ?_⟩) ?_ ?_
                                              rotate_left
                                              · intro w'
                                                go_simp
                                                with_reducible rfl
                                              rotate_left
                                              · simp only [Act.put, List.setIfInBounds_toArray, List.set_cons_zero, List.set_cons_succ, i64_w, i32_w]
                                                rfl
                                              refine pure_ (i := 2) (N := some 135) (v := ?_) (a' := ?_) #[false, true, true, false, false, false, false, false, false, false, false, false, false, false, false, false] rfl rfl (any_of HT_.out (by kernel_rfl)) (fun _ _ _ h => h) (Or.inl ⟨by rfl, ?_⟩) ?_ ?_
                                              rotate_left
                                              · intro w'
                                                go_simp
                                                with_reducible rfl
                                              rotate_left
                                              · simp only [Act.put, List.setIfInBounds_toArray, List.set_cons_zero, List.set_cons_succ, i64_w, i32_w]
                                                rfl
                                              refine pure_ (i := 3) (N := some 136) (v := ?_) (a' := ?_) #[false, true, true, true, false, false, false, false, false, false, false, false, false, false, false, false] rfl rfl (any_of HT_.out (by kernel_rfl)) (fun _ _ _ h => h) (Or.inl ⟨by rfl, ?_⟩) ?_ ?_
                                              rotate_left
                                              · intro w'
                                                go_simp
                                                with_reducible rfl
                                              rotate_left
                                              · simp only [Act.put, List.setIfInBounds_toArray, List.set_cons_zero, List.set_cons_succ, i64_w, i32_w]
                                                rfl
                                              refine pure_ (i := 5) (N := some 138) (v := ?_) (a' := ?_) #[false, true, true, true, false, true, false, false, false, false, false, false, false, false, false, false] rfl rfl (any_of HT_.out (by kernel_rfl)) (fun _ _ _ h => h) (Or.inl ⟨by rfl, ?_⟩) ?_ ?_
                                              rotate_left
                                              · intro w'
                                                go_simp
                                                with_reducible rfl
                                              rotate_left
                                              · simp only [Act.put, List.setIfInBounds_toArray, List.set_cons_zero, List.set_cons_succ, i64_w, i32_w]
                                                rfl
                                              refine pure_ (i := 6) (N := some 139) (v := ?_) (a' := ?_) #[false, true, true, true, false, true, true, false, false, false, false, false, false, false, false, false] rfl rfl (any_of HT_.out (by kernel_rfl)) (fun _ _ _ h => h) (Or.inl ⟨by rfl, ?_⟩) ?_ ?_
                                              rotate_left
                                              · intro w'
                                                go_simp
                                                with_reducible rfl
                                              rotate_left
                                              · simp only [Act.put, List.setIfInBounds_toArray, List.set_cons_zero, List.set_cons_succ, i64_w, i32_w]
                                                rfl
                                              refine take_ (i := 7) (N := some 140) (v := ?_) (a' := ?_) #[false, true, true, true, false, true, true, true, false, false, false, false, false, false, false, false] rfl rfl (take_ofW HT_.out HW_.out (by kernel_rfl)) (fun _ _ _ h => h) (Or.inl ⟨by rfl, ?_⟩) hHeld ?_ ?_
                                              rotate_left
                                              · rintro w' ⟨s0, s1⟩
                                                go_simp
                                                with_reducible rfl
                                              rotate_left
                                              · simp only [Act.put, List.setIfInBounds_toArray, List.set_cons_zero, List.set_cons_succ, i64_w, i32_w]
                                                rfl
                                              refine join_ (σ := Value × Value × Value) 7 #[true, true, true, true, true, true, true, true, true, false, false, false, false, false, false, false] (fun s_ => [(133, s_.1), (137, s_.2.1), (141, s_.2.2)]) (fun s_ w' => (w'.cell? ad238 = some (.int .i64 ((rd_T23 x8_2 0).f0)) ∧ w'.cell? ⟨ad238.block, ad238.off + 1, none⟩ = some (.int .i64 ((rd_T23 x8_2 0).f1))) ∧ (Kd.R k23 23 w' w.heap.size (fun k_ => some k_ ≠ (s_.2.2 : Value).ownBlock ∧ some k_ ≠ (.slice Ao75 x10_2.length co75 : Value).ownBlock ∧ some k_ ≠ (.slice (some ad238) x8_2.length co71 : Value).ownBlock ∧ some k_ ≠ (.slice Ao73 x9_2.length co73 : Value).ownBlock) s_.2.1 y235) ∧ (Kd.R k23 23 w' w.heap.size (fun k_ => some k_ ≠ (s_.2.1 : Value).ownBlock ∧ some k_ ≠ (.slice Ao75 x10_2.length co75 : Value).ownBlock ∧ some k_ ≠ (.slice (some ad238) x8_2.length co71 : Value).ownBlock ∧ some k_ ≠ (.slice Ao73 x9_2.length co73 : Value).ownBlock) s_.2.2 y239) ∧ (Kd.R k23 23 w' w.heap.size (fun k_ => some k_ ≠ (s_.2.1 : Value).ownBlock ∧ some k_ ≠ (s_.2.2 : Value).ownBlock ∧ some k_ ≠ (.slice (some ad238) x8_2.length co71 : Value).ownBlock ∧ some k_ ≠ (.slice Ao73 x9_2.length co73 : Value).ownBlock) (.slice Ao75 x10_2.length co75) x10_2) ∧ (Kd.R k23 23 w' w.heap.size (fun k_ => some k_ ≠ (s_.2.1 : Value).ownBlock ∧ some k_ ≠ (s_.2.2 : Value).ownBlock ∧ some k_ ≠ (.slice Ao75 x10_2.length co75 : Value).ownBlock ∧ some k_ ≠ (.slice Ao73 x9_2.length co73 : Value).ownBlock) (.slice (some ad238) x8_2.length co71) x8_2) ∧ (Kd.R k23 23 w' w.heap.size (fun k_ => some k_ ≠ (s_.2.1 : Value).ownBlock ∧ some k_ ≠ (s_.2.2 : Value).ownBlock ∧ some k_ ≠ (.slice Ao75 x10_2.length co75 : Value).ownBlock ∧ some k_ ≠ (.slice (some ad238) x8_2.length co71 : Value).ownBlock) (.slice Ao73 x9_2.length co73) x9_2) ∧ (w'.heap[gb180]? = some (.cells #[.int .i32 a1_0, .int .i32 a1_1] 44 (0, 0))) ∧ (Below w.heap.size w w')) ?_ ?_
                                              rotate_left
                                              · intro hCont
                                                refine two_ (i := 0) (j := 8) (Ni := some 133) (Nj := some 141) #[true, true, true, true, false, true, true, true, false, false, false, false, false, false, false, false] #[false, true, true, true, false, true, true, true, true, false, false, false, false, false, false, false] rfl rfl rfl rfl (two_of HT_.out (by kernel_rfl)) (by decide) (by decide) (fun K hK => ?_) (fun K hK => ?_)
                                                · skip
                                                  refine Kd.R_lit_step k23 _ 23 ?hg (N := 133) ?hd (xs := ([] : List (S23))) (inner := []) (ok := fun _ => True) (okp := fun _ => True) ?hr ?hp (fun _ hk => hk) trivial (Below.refl _ _) (Nat.le_refl _) (by simp) ?_; (case hd => rfl); (case hg => rfl); (case hr => first | (go_simp; done) | (go_simp; rfl)); (case hp => exact (Reps.none _ _))
                                                  intro v229 w81 ho82 hb hg_ hnew_
                                                  have HS0_ := (hb.cell (World.block_lt_of_cell? _ _ (hHeld.1))).trans (hHeld.1)
                                                  have HS1_ := (hb.cell (World.block_lt_of_cell? _ _ (hHeld.2))).trans (hHeld.2)
                                                  clear hg_ hnew_
                                                  (first | rw [← Ny228.out] at ho82 | (simp only [Int.reduceToNat] at ho82; rw [← Ny228.out] at ho82))
                                                  have n0_ := Aside0.mk (Kd.R_elder' (by (with_reducible repeat (first | apply Kd.R_alloc | apply Kd.R_drewN | apply Kd.R_drew)); exact HO_8.out) (Kd.R_base ho82) hb)
                                                  have n1_ := Aside0.mk (Kd.R_elder' (by (with_reducible repeat (first | apply Kd.R_alloc | apply Kd.R_drewN | apply Kd.R_drew)); exact HO_9.out) (Kd.R_base ho82) hb)
                                                  have n2_ := Aside0.mk (Kd.R_elder' (by (with_reducible repeat (first | apply Kd.R_alloc | apply Kd.R_drewN | apply Kd.R_drew)); exact HO_10.out) (Kd.R_base ho82) hb)
                                                  have n3_ := Aside0.mk (Kd.R_lower (Kd.R_new' (Kd.R_new' (Kd.R_new' ho82 (Kd.R_lt (by (with_reducible repeat (first | apply Kd.R_alloc | apply Kd.R_drewN | apply Kd.R_drew)); exact HO_8.out))) (Kd.R_lt (by (with_reducible repeat (first | apply Kd.R_alloc | apply Kd.R_drewN | apply Kd.R_drew)); exact HO_9.out))) (Kd.R_lt (by (with_reducible repeat (first | apply Kd.R_alloc | apply Kd.R_drewN | apply Kd.R_drew)); exact HO_10.out))) (below_size (by repeat (first | (with_reducible first | exact HB.out | apply below_alloc | apply pw_below_drewN | apply below_drew1 | refine below_set ?_ GE180.out) | exact HB.out))))
                                                  have n4_ := Aside0.mk (blk_below (g := gb180) (o := .cells #[.int .i32 a1_0, .int .i32 a1_1] 44 (0, 0)) (by (with_reducible repeat (first | refine blk_drewN ?_ _ | refine blk_drew ?_ | refine blk_alloc ?_ _)); exact BK180.out) hb)
                                                  have n5_ := Aside0.mk (Kd.C_below (by repeat (first | (with_reducible exact HR225.out) | (with_reducible refine Kd.C_alloc ?_ _) | (with_reducible refine Kd.C_drewN ?_ _) | (with_reducible refine Kd.C_drew ?_) | exact HR225.out)) hb)
                                                  have n6_ := Aside0.mk (Kd.C_below (by repeat (first | (with_reducible exact HR234.out) | (with_reducible refine Kd.C_alloc ?_ _) | (with_reducible refine Kd.C_drewN ?_ _) | (with_reducible refine Kd.C_drew ?_) | exact HR234.out)) hb)
                                                  have n7_ := Aside0.mk (below_step (by repeat (first | (with_reducible first | exact HB.out | apply below_alloc | apply pw_below_drewN | apply below_drew1 | refine below_set ?_ GE180.out) | exact HB.out)) hb)
                                                  clear HO_8
                                                  clear HO_9
                                                  clear HO_10
                                                  clear BK180
                                                  clear HR225
                                                  clear HR234
                                                  clear HB
                                                  have HO_8 := n0_
                                                  have HO_9 := n1_
                                                  have HO_10 := n2_
                                                  have HO230 := n3_
                                                  have BK180 := n4_
                                                  have HR225 := n5_
                                                  have HR234 := n6_
                                                  have HB := n7_
                                                  clear n0_ n1_ n2_ n3_ n4_ n5_ n6_ n7_
                                                  clear hb ho82
                                                  refine hK.out _ _ ⟨HS0_, HS1_⟩ (fun hHeld => ?_)
                                                  clear hK K
                                                  refine norm_ (a' := ?_) ?_ ?_
                                                  rotate_left
                                                  · show Act.put _ (some 133) _ = _
                                                    simp only [Act.put, List.setIfInBounds_toArray, List.set_cons_zero, List.set_cons_succ, i64_w, i32_w]
                                                    rfl
                                                  refine two_ (i := 4) (j := 8) (Ni := some 137) (Nj := some 141) #[true, true, true, true, true, true, true, true, false, false, false, false, false, false, false, false] #[true, true, true, true, false, true, true, true, true, false, false, false, false, false, false, false] rfl rfl rfl rfl (two_of HT_.out (by kernel_rfl)) (by decide) (by decide) (fun K hK => ?_) (fun K hK => ?_)
                                                  · skip
                                                    refine Kd.R_append_rows_step k23 (w0 := w) w.heap.size (by rfl) (.tmp 133) (.tmp 136) 34 23 (.agg #[(.int .i64 0), (.int .i64 0)]) 16 rfl Try.underlying34 info23 rfl (by decide) (by omega) v229 y228 y231 _ _ _ (fun k_ => some k_ ≠ (.slice (some ad238) x8_2.length co71 : Value).ownBlock ∧ some k_ ≠ (.slice Ao73 x9_2.length co73 : Value).ownBlock ∧ some k_ ≠ (.slice Ao75 x10_2.length co75 : Value).ownBlock) (fun _ => False) rfl rfl ?aO ?aR (fun _ _ h => h) (fun _ h => h.elim) ?aF ?aB ?aS ?aL ?_
                                                    (case aR => repeat (first | exact (by repeat (first | (with_reducible exact HR234.out) | (with_reducible refine Kd.C_alloc ?_ _) | (with_reducible refine Kd.C_drewN ?_ _) | (with_reducible refine Kd.C_drew ?_) | exact HR234.out)) | (with_reducible refine Kd.C_alloc ?_ _) | (with_reducible refine Kd.C_drewN ?_ _) | (with_reducible refine Kd.C_drew ?_)))
                                                    (case aB => exact (by repeat (first | (with_reducible first | exact HB.out | apply below_alloc | apply pw_below_drewN | apply below_drew1 | refine below_set ?_ GE180.out) | exact HB.out)))
                                                    (case aF => exact (fun k_ hk => ⟨Kd.fresh' (Kd.R_lt (by (with_reducible repeat (first | apply Kd.R_alloc | apply Kd.R_drewN | apply Kd.R_drew)); exact HO_8.out)) k_ hk, Kd.fresh' (Kd.R_lt (by (with_reducible repeat (first | apply Kd.R_alloc | apply Kd.R_drewN | apply Kd.R_drew)); exact HO_9.out)) k_ hk, Kd.fresh' (Kd.R_lt (by (with_reducible repeat (first | apply Kd.R_alloc | apply Kd.R_drewN | apply Kd.R_drew)); exact HO_10.out)) k_ hk⟩))
                                                    (case aO => exact (by (with_reducible repeat (first | apply Kd.R_alloc | apply Kd.R_drewN | apply Kd.R_drew)); exact Kd.R_mono HO230.out (fun _ hk => ⟨hk.1.1.2, ⟨hk.1.2, hk.2⟩⟩)))
                                                    (case aS => exact (below_size (by repeat (first | (with_reducible first | exact HB.out | apply below_alloc | apply pw_below_drewN | apply below_drew1 | refine below_set ?_ GE180.out) | exact HB.out))))
                                                    (case aL => have := LMc60.out; omega)
                                                    intro v236 w83 ho hb hg hat
                                                    rw [← Ny235.out] at ho
                                                    have n0_ := Aside0.mk (Kd.R_after (ok := (fun k_ => some k_ ≠ (.slice Ao73 x9_2.length co73 : Value).ownBlock ∧ some k_ ≠ (.slice Ao75 x10_2.length co75 : Value).ownBlock)) (by (with_reducible repeat (first | apply Kd.R_alloc | apply Kd.R_drewN | apply Kd.R_drew)); exact HO_8.out) hg hat)
                                                    have n1_ := Aside0.mk (Kd.R_after (ok := (fun k_ => some k_ ≠ (.slice (some ad238) x8_2.length co71 : Value).ownBlock ∧ some k_ ≠ (.slice Ao75 x10_2.length co75 : Value).ownBlock)) (by (with_reducible repeat (first | apply Kd.R_alloc | apply Kd.R_drewN | apply Kd.R_drew)); exact HO_9.out) hg hat)
                                                    have n2_ := Aside0.mk (Kd.R_after (ok := (fun k_ => some k_ ≠ (.slice (some ad238) x8_2.length co71 : Value).ownBlock ∧ some k_ ≠ (.slice Ao73 x9_2.length co73 : Value).ownBlock)) (by (with_reducible repeat (first | apply Kd.R_alloc | apply Kd.R_drewN | apply Kd.R_drew)); exact HO_10.out) hg hat)
                                                    have n3_ := Aside0.mk (blk_grown (g := gb180) (o := .cells #[.int .i32 a1_0, .int .i32 a1_1] 44 (0, 0)) (by (with_reducible repeat (first | refine blk_drewN ?_ _ | refine blk_drew ?_ | refine blk_alloc ?_ _)); exact BK180.out) hg (Kd.R_ne HO230.out BK180.out (by decide)))
                                                    have n4_ := Aside0.mk (hb)
                                                    have n5_ := Aside0.mk ((show Kd.C k23 w83 (some ad238) y222.length y222 from by rw [Ny222.out]; exact Kd.C_take (m := ((ji53) : Int).toNat) ((Kd.R_reads' (Kd.R_after (ok := (fun k_ => some k_ ≠ (.slice Ao73 x9_2.length co73 : Value).ownBlock ∧ some k_ ≠ (.slice Ao75 x10_2.length co75 : Value).ownBlock)) (by (with_reducible repeat (first | apply Kd.R_alloc | apply Kd.R_drewN | apply Kd.R_drew)); exact HO_8.out) hg hat)).2.2) KL77.out))
                                                    have n6_ := Aside0.mk ((show Kd.C k23 w83 A80 y231.length y231 from by rw [Ny231.out, KA80.out]; exact Kd.C_drop (m := ((ji57) : Int).toNat) (c := co71) ((Kd.R_reads' (Kd.R_after (ok := (fun k_ => some k_ ≠ (.slice Ao73 x9_2.length co73 : Value).ownBlock ∧ some k_ ≠ (.slice Ao75 x10_2.length co75 : Value).ownBlock)) (by (with_reducible repeat (first | apply Kd.R_alloc | apply Kd.R_drewN | apply Kd.R_drew)); exact HO_8.out) hg hat)).2.2) KL80.out ((Kd.R_reads' (Kd.R_after (ok := (fun k_ => some k_ ≠ (.slice Ao73 x9_2.length co73 : Value).ownBlock ∧ some k_ ≠ (.slice Ao75 x10_2.length co75 : Value).ownBlock)) (by (with_reducible repeat (first | apply Kd.R_alloc | apply Kd.R_drewN | apply Kd.R_drew)); exact HO_8.out) hg hat)).2.1)))
                                                    have n7_ := Aside0.mk (ho)
                                                    clear HO_8
                                                    clear HO_9
                                                    clear HO_10
                                                    clear BK180
                                                    clear HB
                                                    clear HR225
                                                    clear HR234
                                                    clear HO230
                                                    have HO_8 := n0_
                                                    have HO_9 := n1_
                                                    have HO_10 := n2_
                                                    have BK180 := n3_
                                                    have HB := n4_
                                                    have HR225 := n5_
                                                    have HR234 := n6_
                                                    have HO237 := n7_
                                                    clear n0_ n1_ n2_ n3_ n4_ n5_ n6_ n7_
                                                    clear ho hb hg hat
                                                    have HS0_ := (Aid.re1 (at_T23 (Kd.R_reads' HO_8.out).2.2 0 (of_eq_true p238) (of_eq_true q238))).1
                                                    (try rw [show ((0 : Int)).toNat = 0 from rfl] at HS0_)
                                                    (try rw [show 0 * 2 = 0 from rfl] at HS0_)
                                                    (try rw [Addr.add_zero'] at HS0_)
                                                    have HS1_ := (Aid.re1 (at_T23 (Kd.R_reads' HO_8.out).2.2 0 (of_eq_true p238) (of_eq_true q238))).2
                                                    (try rw [show ((0 : Int)).toNat = 0 from rfl] at HS1_)
                                                    (try rw [show 0 * 2 = 0 from rfl] at HS1_)
                                                    (try rw [Addr.add_zero'] at HS1_)
                                                    refine hK.out _ _ ⟨HS0_, HS1_⟩ (fun hHeld => ?_)
                                                    clear hK K
                                                    refine norm_ (a' := ?_) ?_ ?_
                                                    rotate_left
                                                    · show Act.put _ (some 137) _ = _
                                                      simp only [Act.put, List.setIfInBounds_toArray, List.set_cons_zero, List.set_cons_succ, i64_w, i32_w]
                                                      rfl
                                                    refine one_ (i := 8) (N := some 141) #[true, true, true, true, true, true, true, true, true, false, false, false, false, false, false, false] rfl rfl (one_of HT_.out (by kernel_rfl)) (by decide) (fun K hK => ?_)
                                                    refine Kd.R_lit_step k23 _ 23 ?hg (N := 141) ?hd (xs := ([(⟨(rd_T23 x8_2 0).f0, (rd_T23 x8_2 0).f1⟩ : S23)] : List (S23))) (inner := [.int .i64 ((rd_T23 x8_2 0).f0), .int .i64 ((rd_T23 x8_2 0).f1)]) (ok := fun _ => True) (okp := fun _ => True) ?hr ?hp (fun _ hk => hk) trivial (Below.refl _ _) (Nat.le_refl _) (by simp) ?_; (case hd => rfl); (case hg => rfl); (case hr => first | (go_simp; done) | (go_simp; rfl)); (case hp => exact (Reps.c2 (show Kd.M k23 _ _ _ (⟨(rd_T23 x8_2 0).f0, (rd_T23 x8_2 0).f1⟩ : S23) [.int .i64 ((rd_T23 x8_2 0).f0), .int .i64 ((rd_T23 x8_2 0).f1)] from (k23_mkM _ _ _ (⟨(rd_T23 x8_2 0).f0, (rd_T23 x8_2 0).f1⟩ : S23) )) (Reps.none _ _)))
                                                    intro v240 w84 ho85 hb hg_ hnew_
                                                    have HS0_ := (hb.cell (World.block_lt_of_cell? _ _ (hHeld.1))).trans (hHeld.1)
                                                    have HS1_ := (hb.cell (World.block_lt_of_cell? _ _ (hHeld.2))).trans (hHeld.2)
                                                    clear hg_ hnew_
                                                    (first | rw [← Ny239.out] at ho85 | (simp only [Int.reduceToNat] at ho85; rw [← Ny239.out] at ho85))
                                                    have n0_ := Aside0.mk (Kd.R_elder' (by (with_reducible repeat (first | apply Kd.R_alloc | apply Kd.R_drewN | apply Kd.R_drew)); exact HO_8.out) (Kd.R_base ho85) hb)
                                                    have n1_ := Aside0.mk (Kd.R_elder' (by (with_reducible repeat (first | apply Kd.R_alloc | apply Kd.R_drewN | apply Kd.R_drew)); exact HO_9.out) (Kd.R_base ho85) hb)
                                                    have n2_ := Aside0.mk (Kd.R_elder' (by (with_reducible repeat (first | apply Kd.R_alloc | apply Kd.R_drewN | apply Kd.R_drew)); exact HO_10.out) (Kd.R_base ho85) hb)
                                                    have n3_ := Aside0.mk (Kd.R_elder' (by (with_reducible repeat (first | apply Kd.R_alloc | apply Kd.R_drewN | apply Kd.R_drew)); exact HO237.out) (Kd.R_base ho85) hb)
                                                    have n4_ := Aside0.mk (Kd.R_lower (Kd.R_new' (Kd.R_new' (Kd.R_new' (Kd.R_new' ho85 (Kd.R_lt (by (with_reducible repeat (first | apply Kd.R_alloc | apply Kd.R_drewN | apply Kd.R_drew)); exact HO_8.out))) (Kd.R_lt (by (with_reducible repeat (first | apply Kd.R_alloc | apply Kd.R_drewN | apply Kd.R_drew)); exact HO_9.out))) (Kd.R_lt (by (with_reducible repeat (first | apply Kd.R_alloc | apply Kd.R_drewN | apply Kd.R_drew)); exact HO_10.out))) (Kd.R_lt (by (with_reducible repeat (first | apply Kd.R_alloc | apply Kd.R_drewN | apply Kd.R_drew)); exact HO237.out))) (below_size (by repeat (first | (with_reducible first | exact HB.out | apply below_alloc | apply pw_below_drewN | apply below_drew1 | refine below_set ?_ GE180.out) | exact HB.out))))
                                                    have n5_ := Aside0.mk (blk_below (g := gb180) (o := .cells #[.int .i32 a1_0, .int .i32 a1_1] 44 (0, 0)) (by (with_reducible repeat (first | refine blk_drewN ?_ _ | refine blk_drew ?_ | refine blk_alloc ?_ _)); exact BK180.out) hb)
                                                    have n6_ := Aside0.mk (Kd.C_below (by repeat (first | (with_reducible exact HR225.out) | (with_reducible refine Kd.C_alloc ?_ _) | (with_reducible refine Kd.C_drewN ?_ _) | (with_reducible refine Kd.C_drew ?_) | exact HR225.out)) hb)
                                                    have n7_ := Aside0.mk (Kd.C_below (by repeat (first | (with_reducible exact HR234.out) | (with_reducible refine Kd.C_alloc ?_ _) | (with_reducible refine Kd.C_drewN ?_ _) | (with_reducible refine Kd.C_drew ?_) | exact HR234.out)) hb)
                                                    have n8_ := Aside0.mk (below_step (by repeat (first | (with_reducible first | exact HB.out | apply below_alloc | apply pw_below_drewN | apply below_drew1 | refine below_set ?_ GE180.out) | exact HB.out)) hb)
                                                    clear HO_8
                                                    clear HO_9
                                                    clear HO_10
                                                    clear HO237
                                                    clear BK180
                                                    clear HR225
                                                    clear HR234
                                                    clear HB
                                                    have HO_8 := n0_
                                                    have HO_9 := n1_
                                                    have HO_10 := n2_
                                                    have HO237 := n3_
                                                    have HO241 := n4_
                                                    have BK180 := n5_
                                                    have HR225 := n6_
                                                    have HR234 := n7_
                                                    have HB := n8_
                                                    clear n0_ n1_ n2_ n3_ n4_ n5_ n6_ n7_ n8_
                                                    clear hb ho85
                                                    refine hK.out _ _ ⟨HS0_, HS1_⟩ (fun hHeld => ?_)
                                                    clear hK K
                                                    refine norm_ (a' := ?_) ?_ ?_
                                                    rotate_left
                                                    · show Act.put _ (some 141) _ = _
                                                      simp only [Act.put, List.setIfInBounds_toArray, List.set_cons_zero, List.set_cons_succ, i64_w, i32_w]
                                                      rfl
                                                    exact norm_ (by simp only [putAll, Act.put, List.setIfInBounds_toArray, List.set_cons_zero, List.set_cons_succ]) (hCont (v229, v236, v240) _ ⟨hHeld, (by (with_reducible repeat (first | apply Kd.R_alloc | apply Kd.R_drewN | apply Kd.R_drew)); exact Kd.R_mono HO237.out (fun _ hk => ⟨hk.2, ⟨hk.1.2.2, ⟨hk.1.1, hk.1.2.1⟩⟩⟩)), (by (with_reducible repeat (first | apply Kd.R_alloc | apply Kd.R_drewN | apply Kd.R_drew)); exact Kd.R_mono HO241.out (fun _ hk => ⟨hk.2, ⟨hk.1.2, ⟨hk.1.1.1.2, hk.1.1.2⟩⟩⟩)), (by (with_reducible repeat (first | apply Kd.R_alloc | apply Kd.R_drewN | apply Kd.R_drew)); exact Kd.R_mono HO_10.out (fun _ hk => ⟨hk.1.2, ⟨hk.2, ⟨hk.1.1.1, hk.1.1.2⟩⟩⟩)), (by (with_reducible repeat (first | apply Kd.R_alloc | apply Kd.R_drewN | apply Kd.R_drew)); exact Kd.R_mono HO_8.out (fun _ hk => ⟨hk.1.2, ⟨hk.2, ⟨hk.1.1.2, hk.1.1.1⟩⟩⟩)), (by (with_reducible repeat (first | apply Kd.R_alloc | apply Kd.R_drewN | apply Kd.R_drew)); exact Kd.R_mono HO_9.out (fun _ hk => ⟨hk.1.2, ⟨hk.2, ⟨hk.1.1.2, hk.1.1.1⟩⟩⟩)), (by (with_reducible repeat (first | refine blk_drewN ?_ _ | refine blk_drew ?_ | refine blk_alloc ?_ _)); exact BK180.out), (by repeat (first | (with_reducible first | exact HB.out | apply below_alloc | apply pw_below_drewN | apply below_drew1 | refine below_set ?_ GE180.out) | exact HB.out))⟩)
                                                  · skip
                                                    refine Kd.R_lit_step k23 _ 23 ?hg (N := 141) ?hd (xs := ([(⟨(rd_T23 x8_2 0).f0, (rd_T23 x8_2 0).f1⟩ : S23)] : List (S23))) (inner := [.int .i64 ((rd_T23 x8_2 0).f0), .int .i64 ((rd_T23 x8_2 0).f1)]) (ok := fun _ => True) (okp := fun _ => True) ?hr ?hp (fun _ hk => hk) trivial (Below.refl _ _) (Nat.le_refl _) (by simp) ?_; (case hd => rfl); (case hg => rfl); (case hr => first | (go_simp; done) | (go_simp; rfl)); (case hp => exact (Reps.c2 (show Kd.M k23 _ _ _ (⟨(rd_T23 x8_2 0).f0, (rd_T23 x8_2 0).f1⟩ : S23) [.int .i64 ((rd_T23 x8_2 0).f0), .int .i64 ((rd_T23 x8_2 0).f1)] from (k23_mkM _ _ _ (⟨(rd_T23 x8_2 0).f0, (rd_T23 x8_2 0).f1⟩ : S23) )) (Reps.none _ _)))
                                                    intro v240 w83 ho84 hb hg_ hnew_
                                                    have HS0_ := (hb.cell (World.block_lt_of_cell? _ _ (hHeld.1))).trans (hHeld.1)
                                                    have HS1_ := (hb.cell (World.block_lt_of_cell? _ _ (hHeld.2))).trans (hHeld.2)
                                                    clear hg_ hnew_
                                                    (first | rw [← Ny239.out] at ho84 | (simp only [Int.reduceToNat] at ho84; rw [← Ny239.out] at ho84))
                                                    have n0_ := Aside0.mk (Kd.R_elder' (by (with_reducible repeat (first | apply Kd.R_alloc | apply Kd.R_drewN | apply Kd.R_drew)); exact HO_8.out) (Kd.R_base ho84) hb)
                                                    have n1_ := Aside0.mk (Kd.R_elder' (by (with_reducible repeat (first | apply Kd.R_alloc | apply Kd.R_drewN | apply Kd.R_drew)); exact HO_9.out) (Kd.R_base ho84) hb)
                                                    have n2_ := Aside0.mk (Kd.R_elder' (by (with_reducible repeat (first | apply Kd.R_alloc | apply Kd.R_drewN | apply Kd.R_drew)); exact HO_10.out) (Kd.R_base ho84) hb)
                                                    have n3_ := Aside0.mk (Kd.R_elder' (by (with_reducible repeat (first | apply Kd.R_alloc | apply Kd.R_drewN | apply Kd.R_drew)); exact HO230.out) (Kd.R_base ho84) hb)
                                                    have n4_ := Aside0.mk (Kd.R_lower (Kd.R_new' (Kd.R_new' (Kd.R_new' (Kd.R_new' ho84 (Kd.R_lt (by (with_reducible repeat (first | apply Kd.R_alloc | apply Kd.R_drewN | apply Kd.R_drew)); exact HO_8.out))) (Kd.R_lt (by (with_reducible repeat (first | apply Kd.R_alloc | apply Kd.R_drewN | apply Kd.R_drew)); exact HO_9.out))) (Kd.R_lt (by (with_reducible repeat (first | apply Kd.R_alloc | apply Kd.R_drewN | apply Kd.R_drew)); exact HO_10.out))) (Kd.R_lt (by (with_reducible repeat (first | apply Kd.R_alloc | apply Kd.R_drewN | apply Kd.R_drew)); exact HO230.out))) (below_size (by repeat (first | (with_reducible first | exact HB.out | apply below_alloc | apply pw_below_drewN | apply below_drew1 | refine below_set ?_ GE180.out) | exact HB.out))))
                                                    have n5_ := Aside0.mk (blk_below (g := gb180) (o := .cells #[.int .i32 a1_0, .int .i32 a1_1] 44 (0, 0)) (by (with_reducible repeat (first | refine blk_drewN ?_ _ | refine blk_drew ?_ | refine blk_alloc ?_ _)); exact BK180.out) hb)
                                                    have n6_ := Aside0.mk (Kd.C_below (by repeat (first | (with_reducible exact HR225.out) | (with_reducible refine Kd.C_alloc ?_ _) | (with_reducible refine Kd.C_drewN ?_ _) | (with_reducible refine Kd.C_drew ?_) | exact HR225.out)) hb)
                                                    have n7_ := Aside0.mk (Kd.C_below (by repeat (first | (with_reducible exact HR234.out) | (with_reducible refine Kd.C_alloc ?_ _) | (with_reducible refine Kd.C_drewN ?_ _) | (with_reducible refine Kd.C_drew ?_) | exact HR234.out)) hb)
                                                    have n8_ := Aside0.mk (below_step (by repeat (first | (with_reducible first | exact HB.out | apply below_alloc | apply pw_below_drewN | apply below_drew1 | refine below_set ?_ GE180.out) | exact HB.out)) hb)
                                                    clear HO_8
                                                    clear HO_9
                                                    clear HO_10
                                                    clear HO230
                                                    clear BK180
                                                    clear HR225
                                                    clear HR234
                                                    clear HB
                                                    have HO_8 := n0_
                                                    have HO_9 := n1_
                                                    have HO_10 := n2_
                                                    have HO230 := n3_
                                                    have HO241 := n4_
                                                    have BK180 := n5_
                                                    have HR225 := n6_
                                                    have HR234 := n7_
                                                    have HB := n8_
                                                    clear n0_ n1_ n2_ n3_ n4_ n5_ n6_ n7_ n8_
                                                    clear hb ho84
                                                    refine hK.out _ _ ⟨HS0_, HS1_⟩ (fun hHeld => ?_)
                                                    clear hK K
                                                    refine norm_ (a' := ?_) ?_ ?_
                                                    rotate_left
                                                    · show Act.put _ (some 141) _ = _
                                                      simp only [Act.put, List.setIfInBounds_toArray, List.set_cons_zero, List.set_cons_succ, i64_w, i32_w]
                                                      rfl
                                                    refine one_ (i := 4) (N := some 137) #[true, true, true, true, true, true, true, true, true, false, false, false, false, false, false, false] rfl rfl (one_of HT_.out (by kernel_rfl)) (by decide) (fun K hK => ?_)
                                                    refine Kd.R_append_rows_step k23 (w0 := w) w.heap.size (by rfl) (.tmp 133) (.tmp 136) 34 23 (.agg #[(.int .i64 0), (.int .i64 0)]) 16 rfl Try.underlying34 info23 rfl (by decide) (by omega) v229 y228 y231 _ _ _ (fun k_ => some k_ ≠ (.slice (some ad238) x8_2.length co71 : Value).ownBlock ∧ some k_ ≠ (.slice Ao73 x9_2.length co73 : Value).ownBlock ∧ some k_ ≠ (.slice Ao75 x10_2.length co75 : Value).ownBlock ∧ some k_ ≠ (v240 : Value).ownBlock) (fun _ => False) rfl rfl ?aO ?aR (fun _ _ h => h) (fun _ h => h.elim) ?aF ?aB ?aS ?aL ?_
                                                    (case aR => repeat (first | exact (by repeat (first | (with_reducible exact HR234.out) | (with_reducible refine Kd.C_alloc ?_ _) | (with_reducible refine Kd.C_drewN ?_ _) | (with_reducible refine Kd.C_drew ?_) | exact HR234.out)) | (with_reducible refine Kd.C_alloc ?_ _) | (with_reducible refine Kd.C_drewN ?_ _) | (with_reducible refine Kd.C_drew ?_)))
                                                    (case aB => exact (by repeat (first | (with_reducible first | exact HB.out | apply below_alloc | apply pw_below_drewN | apply below_drew1 | refine below_set ?_ GE180.out) | exact HB.out)))
                                                    (case aF => exact (fun k_ hk => ⟨Kd.fresh' (Kd.R_lt (by (with_reducible repeat (first | apply Kd.R_alloc | apply Kd.R_drewN | apply Kd.R_drew)); exact HO_8.out)) k_ hk, Kd.fresh' (Kd.R_lt (by (with_reducible repeat (first | apply Kd.R_alloc | apply Kd.R_drewN | apply Kd.R_drew)); exact HO_9.out)) k_ hk, Kd.fresh' (Kd.R_lt (by (with_reducible repeat (first | apply Kd.R_alloc | apply Kd.R_drewN | apply Kd.R_drew)); exact HO_10.out)) k_ hk, Kd.fresh' (Kd.R_lt (by (with_reducible repeat (first | apply Kd.R_alloc | apply Kd.R_drewN | apply Kd.R_drew)); exact HO241.out)) k_ hk⟩))
                                                    (case aO => exact (by (with_reducible repeat (first | apply Kd.R_alloc | apply Kd.R_drewN | apply Kd.R_drew)); exact Kd.R_mono HO230.out (fun _ hk => ⟨hk.1.1.1.2, ⟨hk.1.1.2, ⟨hk.1.2, hk.2⟩⟩⟩)))
                                                    (case aS => exact (below_size (by repeat (first | (with_reducible first | exact HB.out | apply below_alloc | apply pw_below_drewN | apply below_drew1 | refine below_set ?_ GE180.out) | exact HB.out))))
                                                    (case aL => have := LMc60.out; omega)
                                                    intro v236 w85 ho hb hg hat
                                                    rw [← Ny235.out] at ho
                                                    have n0_ := Aside0.mk (Kd.R_after (ok := (fun k_ => some k_ ≠ (.slice Ao73 x9_2.length co73 : Value).ownBlock ∧ some k_ ≠ (.slice Ao75 x10_2.length co75 : Value).ownBlock ∧ some k_ ≠ (v240 : Value).ownBlock)) (by (with_reducible repeat (first | apply Kd.R_alloc | apply Kd.R_drewN | apply Kd.R_drew)); exact Kd.R_mono HO_8.out (fun _ hk => ⟨⟨hk.1.1.1, ⟨hk.1.1.2, hk.2⟩⟩, hk.1.2⟩)) hg hat)
                                                    have n1_ := Aside0.mk (Kd.R_after (ok := (fun k_ => some k_ ≠ (.slice (some ad238) x8_2.length co71 : Value).ownBlock ∧ some k_ ≠ (.slice Ao75 x10_2.length co75 : Value).ownBlock ∧ some k_ ≠ (v240 : Value).ownBlock)) (by (with_reducible repeat (first | apply Kd.R_alloc | apply Kd.R_drewN | apply Kd.R_drew)); exact Kd.R_mono HO_9.out (fun _ hk => ⟨⟨hk.1.1.1, ⟨hk.1.1.2, hk.2⟩⟩, hk.1.2⟩)) hg hat)
                                                    have n2_ := Aside0.mk (Kd.R_after (ok := (fun k_ => some k_ ≠ (.slice (some ad238) x8_2.length co71 : Value).ownBlock ∧ some k_ ≠ (.slice Ao73 x9_2.length co73 : Value).ownBlock ∧ some k_ ≠ (v240 : Value).ownBlock)) (by (with_reducible repeat (first | apply Kd.R_alloc | apply Kd.R_drewN | apply Kd.R_drew)); exact Kd.R_mono HO_10.out (fun _ hk => ⟨⟨hk.1.1.1, ⟨hk.1.1.2, hk.2⟩⟩, hk.1.2⟩)) hg hat)
                                                    have n3_ := Aside0.mk (blk_grown (g := gb180) (o := .cells #[.int .i32 a1_0, .int .i32 a1_1] 44 (0, 0)) (by (with_reducible repeat (first | refine blk_drewN ?_ _ | refine blk_drew ?_ | refine blk_alloc ?_ _)); exact BK180.out) hg (Kd.R_ne HO230.out BK180.out (by decide)))
                                                    have n4_ := Aside0.mk (Kd.R_after (ok := (fun k_ => some k_ ≠ (.slice (some ad238) x8_2.length co71 : Value).ownBlock ∧ some k_ ≠ (.slice Ao73 x9_2.length co73 : Value).ownBlock ∧ some k_ ≠ (.slice Ao75 x10_2.length co75 : Value).ownBlock)) (by (with_reducible repeat (first | apply Kd.R_alloc | apply Kd.R_drewN | apply Kd.R_drew)); exact Kd.R_mono HO241.out (fun _ hk => ⟨⟨hk.1.1.1.2, ⟨hk.1.1.2, hk.1.2⟩⟩, hk.2⟩)) hg hat)
                                                    have n5_ := Aside0.mk (hb)
                                                    have n6_ := Aside0.mk ((show Kd.C k23 w85 (some ad238) y222.length y222 from by rw [Ny222.out]; exact Kd.C_take (m := ((ji53) : Int).toNat) ((Kd.R_reads' (Kd.R_after (ok := (fun k_ => some k_ ≠ (.slice Ao73 x9_2.length co73 : Value).ownBlock ∧ some k_ ≠ (.slice Ao75 x10_2.length co75 : Value).ownBlock ∧ some k_ ≠ (v240 : Value).ownBlock)) (by (with_reducible repeat (first | apply Kd.R_alloc | apply Kd.R_drewN | apply Kd.R_drew)); exact Kd.R_mono HO_8.out (fun _ hk => ⟨⟨hk.1.1.1, ⟨hk.1.1.2, hk.2⟩⟩, hk.1.2⟩)) hg hat)).2.2) KL77.out))
                                                    have n7_ := Aside0.mk ((show Kd.C k23 w85 A80 y231.length y231 from by rw [Ny231.out, KA80.out]; exact Kd.C_drop (m := ((ji57) : Int).toNat) (c := co71) ((Kd.R_reads' (Kd.R_after (ok := (fun k_ => some k_ ≠ (.slice Ao73 x9_2.length co73 : Value).ownBlock ∧ some k_ ≠ (.slice Ao75 x10_2.length co75 : Value).ownBlock ∧ some k_ ≠ (v240 : Value).ownBlock)) (by (with_reducible repeat (first | apply Kd.R_alloc | apply Kd.R_drewN | apply Kd.R_drew)); exact Kd.R_mono HO_8.out (fun _ hk => ⟨⟨hk.1.1.1, ⟨hk.1.1.2, hk.2⟩⟩, hk.1.2⟩)) hg hat)).2.2) KL80.out ((Kd.R_reads' (Kd.R_after (ok := (fun k_ => some k_ ≠ (.slice Ao73 x9_2.length co73 : Value).ownBlock ∧ some k_ ≠ (.slice Ao75 x10_2.length co75 : Value).ownBlock ∧ some k_ ≠ (v240 : Value).ownBlock)) (by (with_reducible repeat (first | apply Kd.R_alloc | apply Kd.R_drewN | apply Kd.R_drew)); exact Kd.R_mono HO_8.out (fun _ hk => ⟨⟨hk.1.1.1, ⟨hk.1.1.2, hk.2⟩⟩, hk.1.2⟩)) hg hat)).2.1)))
                                                    have n8_ := Aside0.mk (ho)
                                                    clear HO_8
                                                    clear HO_9
                                                    clear HO_10
                                                    clear BK180
                                                    clear HO241
                                                    clear HB
                                                    clear HR225
                                                    clear HR234
                                                    clear HO230
                                                    have HO_8 := n0_
                                                    have HO_9 := n1_
                                                    have HO_10 := n2_
                                                    have BK180 := n3_
                                                    have HO241 := n4_
                                                    have HB := n5_
                                                    have HR225 := n6_
                                                    have HR234 := n7_
                                                    have HO237 := n8_
                                                    clear n0_ n1_ n2_ n3_ n4_ n5_ n6_ n7_ n8_
                                                    clear ho hb hg hat
                                                    have HS0_ := (Aid.re1 (at_T23 (Kd.R_reads' HO_8.out).2.2 0 (of_eq_true p238) (of_eq_true q238))).1
                                                    (try rw [show ((0 : Int)).toNat = 0 from rfl] at HS0_)
                                                    (try rw [show 0 * 2 = 0 from rfl] at HS0_)
                                                    (try rw [Addr.add_zero'] at HS0_)
                                                    have HS1_ := (Aid.re1 (at_T23 (Kd.R_reads' HO_8.out).2.2 0 (of_eq_true p238) (of_eq_true q238))).2
                                                    (try rw [show ((0 : Int)).toNat = 0 from rfl] at HS1_)
                                                    (try rw [show 0 * 2 = 0 from rfl] at HS1_)
                                                    (try rw [Addr.add_zero'] at HS1_)
                                                    refine hK.out _ _ ⟨HS0_, HS1_⟩ (fun hHeld => ?_)
                                                    clear hK K
                                                    refine norm_ (a' := ?_) ?_ ?_
                                                    rotate_left
                                                    · show Act.put _ (some 137) _ = _
                                                      simp only [Act.put, List.setIfInBounds_toArray, List.set_cons_zero, List.set_cons_succ, i64_w, i32_w]
                                                      rfl
                                                    exact norm_ (by simp only [putAll, Act.put, List.setIfInBounds_toArray, List.set_cons_zero, List.set_cons_succ]) (hCont (v229, v236, v240) _ ⟨hHeld, (by (with_reducible repeat (first | apply Kd.R_alloc | apply Kd.R_drewN | apply Kd.R_drew)); exact Kd.R_mono HO237.out (fun _ hk => ⟨hk.2.2.2, ⟨hk.2.2.1, ⟨hk.1, hk.2.1⟩⟩⟩)), (by (with_reducible repeat (first | apply Kd.R_alloc | apply Kd.R_drewN | apply Kd.R_drew)); exact Kd.R_mono HO241.out (fun _ hk => ⟨hk.2, ⟨hk.1.2.2, ⟨hk.1.1, hk.1.2.1⟩⟩⟩)), (by (with_reducible repeat (first | apply Kd.R_alloc | apply Kd.R_drewN | apply Kd.R_drew)); exact Kd.R_mono HO_10.out (fun _ hk => ⟨hk.2, ⟨hk.1.2.2, ⟨hk.1.1, hk.1.2.1⟩⟩⟩)), (by (with_reducible repeat (first | apply Kd.R_alloc | apply Kd.R_drewN | apply Kd.R_drew)); exact Kd.R_mono HO_8.out (fun _ hk => ⟨hk.2, ⟨hk.1.2.2, ⟨hk.1.2.1, hk.1.1⟩⟩⟩)), (by (with_reducible repeat (first | apply Kd.R_alloc | apply Kd.R_drewN | apply Kd.R_drew)); exact Kd.R_mono HO_9.out (fun _ hk => ⟨hk.2, ⟨hk.1.2.2, ⟨hk.1.2.1, hk.1.1⟩⟩⟩)), (by (with_reducible repeat (first | refine blk_drewN ?_ _ | refine blk_drew ?_ | refine blk_alloc ?_ _)); exact BK180.out), (by repeat (first | (with_reducible first | exact HB.out | apply below_alloc | apply pw_below_drewN | apply below_drew1 | refine below_set ?_ GE180.out) | exact HB.out))⟩)
                                                · skip
                                                  refine Kd.R_lit_step k23 _ 23 ?hg (N := 141) ?hd (xs := ([(⟨(rd_T23 x8_2 0).f0, (rd_T23 x8_2 0).f1⟩ : S23)] : List (S23))) (inner := [.int .i64 ((rd_T23 x8_2 0).f0), .int .i64 ((rd_T23 x8_2 0).f1)]) (ok := fun _ => True) (okp := fun _ => True) ?hr ?hp (fun _ hk => hk) trivial (Below.refl _ _) (Nat.le_refl _) (by simp) ?_; (case hd => rfl); (case hg => rfl); (case hr => first | (go_simp; done) | (go_simp; rfl)); (case hp => exact (Reps.c2 (show Kd.M k23 _ _ _ (⟨(rd_T23 x8_2 0).f0, (rd_T23 x8_2 0).f1⟩ : S23) [.int .i64 ((rd_T23 x8_2 0).f0), .int .i64 ((rd_T23 x8_2 0).f1)] from (k23_mkM _ _ _ (⟨(rd_T23 x8_2 0).f0, (rd_T23 x8_2 0).f1⟩ : S23) )) (Reps.none _ _)))
                                                  intro v240 w81 ho82 hb hg_ hnew_
                                                  have HS0_ := (hb.cell (World.block_lt_of_cell? _ _ (hHeld.1))).trans (hHeld.1)
                                                  have HS1_ := (hb.cell (World.block_lt_of_cell? _ _ (hHeld.2))).trans (hHeld.2)
                                                  clear hg_ hnew_
                                                  (first | rw [← Ny239.out] at ho82 | (simp only [Int.reduceToNat] at ho82; rw [← Ny239.out] at ho82))
                                                  have n0_ := Aside0.mk (Kd.R_elder' (by (with_reducible repeat (first | apply Kd.R_alloc | apply Kd.R_drewN | apply Kd.R_drew)); exact HO_8.out) (Kd.R_base ho82) hb)
                                                  have n1_ := Aside0.mk (Kd.R_elder' (by (with_reducible repeat (first | apply Kd.R_alloc | apply Kd.R_drewN | apply Kd.R_drew)); exact HO_9.out) (Kd.R_base ho82) hb)
                                                  have n2_ := Aside0.mk (Kd.R_elder' (by (with_reducible repeat (first | apply Kd.R_alloc | apply Kd.R_drewN | apply Kd.R_drew)); exact HO_10.out) (Kd.R_base ho82) hb)
                                                  have n3_ := Aside0.mk (Kd.R_lower (Kd.R_new' (Kd.R_new' (Kd.R_new' ho82 (Kd.R_lt (by (with_reducible repeat (first | apply Kd.R_alloc | apply Kd.R_drewN | apply Kd.R_drew)); exact HO_8.out))) (Kd.R_lt (by (with_reducible repeat (first | apply Kd.R_alloc | apply Kd.R_drewN | apply Kd.R_drew)); exact HO_9.out))) (Kd.R_lt (by (with_reducible repeat (first | apply Kd.R_alloc | apply Kd.R_drewN | apply Kd.R_drew)); exact HO_10.out))) (below_size (by repeat (first | (with_reducible first | exact HB.out | apply below_alloc | apply pw_below_drewN | apply below_drew1 | refine below_set ?_ GE180.out) | exact HB.out))))
                                                  have n4_ := Aside0.mk (blk_below (g := gb180) (o := .cells #[.int .i32 a1_0, .int .i32 a1_1] 44 (0, 0)) (by (with_reducible repeat (first | refine blk_drewN ?_ _ | refine blk_drew ?_ | refine blk_alloc ?_ _)); exact BK180.out) hb)
                                                  have n5_ := Aside0.mk (Kd.C_below (by repeat (first | (with_reducible exact HR225.out) | (with_reducible refine Kd.C_alloc ?_ _) | (with_reducible refine Kd.C_drewN ?_ _) | (with_reducible refine Kd.C_drew ?_) | exact HR225.out)) hb)
                                                  have n6_ := Aside0.mk (Kd.C_below (by repeat (first | (with_reducible exact HR234.out) | (with_reducible refine Kd.C_alloc ?_ _) | (with_reducible refine Kd.C_drewN ?_ _) | (with_reducible refine Kd.C_drew ?_) | exact HR234.out)) hb)
                                                  have n7_ := Aside0.mk (below_step (by repeat (first | (with_reducible first | exact HB.out | apply below_alloc | apply pw_below_drewN | apply below_drew1 | refine below_set ?_ GE180.out) | exact HB.out)) hb)
                                                  clear HO_8
                                                  clear HO_9
                                                  clear HO_10
                                                  clear BK180
                                                  clear HR225
                                                  clear HR234
                                                  clear HB
                                                  have HO_8 := n0_
                                                  have HO_9 := n1_
                                                  have HO_10 := n2_
                                                  have HO241 := n3_
                                                  have BK180 := n4_
                                                  have HR225 := n5_
                                                  have HR234 := n6_
                                                  have HB := n7_
                                                  clear n0_ n1_ n2_ n3_ n4_ n5_ n6_ n7_
                                                  clear hb ho82
                                                  refine hK.out _ _ ⟨HS0_, HS1_⟩ (fun hHeld => ?_)
                                                  clear hK K
                                                  refine norm_ (a' := ?_) ?_ ?_
                                                  rotate_left
                                                  · show Act.put _ (some 141) _ = _
                                                    simp only [Act.put, List.setIfInBounds_toArray, List.set_cons_zero, List.set_cons_succ, i64_w, i32_w]
                                                    rfl
                                                  refine one_ (i := 0) (N := some 133) #[true, true, true, true, false, true, true, true, true, false, false, false, false, false, false, false] rfl rfl (one_of HT_.out (by kernel_rfl)) (by decide) (fun K hK => ?_)
                                                  refine Kd.R_lit_step k23 _ 23 ?hg (N := 133) ?hd (xs := ([] : List (S23))) (inner := []) (ok := fun _ => True) (okp := fun _ => True) ?hr ?hp (fun _ hk => hk) trivial (Below.refl _ _) (Nat.le_refl _) (by simp) ?_; (case hd => rfl); (case hg => rfl); (case hr => first | (go_simp; done) | (go_simp; rfl)); (case hp => exact (Reps.none _ _))
                                                  intro v229 w83 ho84 hb hg_ hnew_
                                                  have HS0_ := (hb.cell (World.block_lt_of_cell? _ _ (hHeld.1))).trans (hHeld.1)
                                                  have HS1_ := (hb.cell (World.block_lt_of_cell? _ _ (hHeld.2))).trans (hHeld.2)
                                                  clear hg_ hnew_
                                                  (first | rw [← Ny228.out] at ho84 | (simp only [Int.reduceToNat] at ho84; rw [← Ny228.out] at ho84))
                                                  have n0_ := Aside0.mk (Kd.R_elder' (by (with_reducible repeat (first | apply Kd.R_alloc | apply Kd.R_drewN | apply Kd.R_drew)); exact HO_8.out) (Kd.R_base ho84) hb)
                                                  have n1_ := Aside0.mk (Kd.R_elder' (by (with_reducible repeat (first | apply Kd.R_alloc | apply Kd.R_drewN | apply Kd.R_drew)); exact HO_9.out) (Kd.R_base ho84) hb)
                                                  have n2_ := Aside0.mk (Kd.R_elder' (by (with_reducible repeat (first | apply Kd.R_alloc | apply Kd.R_drewN | apply Kd.R_drew)); exact HO_10.out) (Kd.R_base ho84) hb)
                                                  have n3_ := Aside0.mk (Kd.R_elder' (by (with_reducible repeat (first | apply Kd.R_alloc | apply Kd.R_drewN | apply Kd.R_drew)); exact HO241.out) (Kd.R_base ho84) hb)
                                                  have n4_ := Aside0.mk (Kd.R_lower (Kd.R_new' (Kd.R_new' (Kd.R_new' (Kd.R_new' ho84 (Kd.R_lt (by (with_reducible repeat (first | apply Kd.R_alloc | apply Kd.R_drewN | apply Kd.R_drew)); exact HO_8.out))) (Kd.R_lt (by (with_reducible repeat (first | apply Kd.R_alloc | apply Kd.R_drewN | apply Kd.R_drew)); exact HO_9.out))) (Kd.R_lt (by (with_reducible repeat (first | apply Kd.R_alloc | apply Kd.R_drewN | apply Kd.R_drew)); exact HO_10.out))) (Kd.R_lt (by (with_reducible repeat (first | apply Kd.R_alloc | apply Kd.R_drewN | apply Kd.R_drew)); exact HO241.out))) (below_size (by repeat (first | (with_reducible first | exact HB.out | apply below_alloc | apply pw_below_drewN | apply below_drew1 | refine below_set ?_ GE180.out) | exact HB.out))))
                                                  have n5_ := Aside0.mk (blk_below (g := gb180) (o := .cells #[.int .i32 a1_0, .int .i32 a1_1] 44 (0, 0)) (by (with_reducible repeat (first | refine blk_drewN ?_ _ | refine blk_drew ?_ | refine blk_alloc ?_ _)); exact BK180.out) hb)
                                                  have n6_ := Aside0.mk (Kd.C_below (by repeat (first | (with_reducible exact HR225.out) | (with_reducible refine Kd.C_alloc ?_ _) | (with_reducible refine Kd.C_drewN ?_ _) | (with_reducible refine Kd.C_drew ?_) | exact HR225.out)) hb)
                                                  have n7_ := Aside0.mk (Kd.C_below (by repeat (first | (with_reducible exact HR234.out) | (with_reducible refine Kd.C_alloc ?_ _) | (with_reducible refine Kd.C_drewN ?_ _) | (with_reducible refine Kd.C_drew ?_) | exact HR234.out)) hb)
                                                  have n8_ := Aside0.mk (below_step (by repeat (first | (with_reducible first | exact HB.out | apply below_alloc | apply pw_below_drewN | apply below_drew1 | refine below_set ?_ GE180.out) | exact HB.out)) hb)
                                                  clear HO_8
                                                  clear HO_9
                                                  clear HO_10
                                                  clear HO241
                                                  clear BK180
                                                  clear HR225
                                                  clear HR234
                                                  clear HB
                                                  have HO_8 := n0_
                                                  have HO_9 := n1_
                                                  have HO_10 := n2_
                                                  have HO241 := n3_
                                                  have HO230 := n4_
                                                  have BK180 := n5_
                                                  have HR225 := n6_
                                                  have HR234 := n7_
                                                  have HB := n8_
                                                  clear n0_ n1_ n2_ n3_ n4_ n5_ n6_ n7_ n8_
                                                  clear hb ho84
                                                  refine hK.out _ _ ⟨HS0_, HS1_⟩ (fun hHeld => ?_)
                                                  clear hK K
                                                  refine norm_ (a' := ?_) ?_ ?_
                                                  rotate_left
                                                  · show Act.put _ (some 133) _ = _
                                                    simp only [Act.put, List.setIfInBounds_toArray, List.set_cons_zero, List.set_cons_succ, i64_w, i32_w]
                                                    rfl
                                                  refine one_ (i := 4) (N := some 137) #[true, true, true, true, true, true, true, true, true, false, false, false, false, false, false, false] rfl rfl (one_of HT_.out (by kernel_rfl)) (by decide) (fun K hK => ?_)
                                                  refine Kd.R_append_rows_step k23 (w0 := w) w.heap.size (by rfl) (.tmp 133) (.tmp 136) 34 23 (.agg #[(.int .i64 0), (.int .i64 0)]) 16 rfl Try.underlying34 info23 rfl (by decide) (by omega) v229 y228 y231 _ _ _ (fun k_ => some k_ ≠ (.slice (some ad238) x8_2.length co71 : Value).ownBlock ∧ some k_ ≠ (.slice Ao73 x9_2.length co73 : Value).ownBlock ∧ some k_ ≠ (.slice Ao75 x10_2.length co75 : Value).ownBlock ∧ some k_ ≠ (v240 : Value).ownBlock) (fun _ => False) rfl rfl ?aO ?aR (fun _ _ h => h) (fun _ h => h.elim) ?aF ?aB ?aS ?aL ?_
                                                  (case aR => repeat (first | exact (by repeat (first | (with_reducible exact HR234.out) | (with_reducible refine Kd.C_alloc ?_ _) | (with_reducible refine Kd.C_drewN ?_ _) | (with_reducible refine Kd.C_drew ?_) | exact HR234.out)) | (with_reducible refine Kd.C_alloc ?_ _) | (with_reducible refine Kd.C_drewN ?_ _) | (with_reducible refine Kd.C_drew ?_)))
                                                  (case aB => exact (by repeat (first | (with_reducible first | exact HB.out | apply below_alloc | apply pw_below_drewN | apply below_drew1 | refine below_set ?_ GE180.out) | exact HB.out)))
                                                  (case aF => exact (fun k_ hk => ⟨Kd.fresh' (Kd.R_lt (by (with_reducible repeat (first | apply Kd.R_alloc | apply Kd.R_drewN | apply Kd.R_drew)); exact HO_8.out)) k_ hk, Kd.fresh' (Kd.R_lt (by (with_reducible repeat (first | apply Kd.R_alloc | apply Kd.R_drewN | apply Kd.R_drew)); exact HO_9.out)) k_ hk, Kd.fresh' (Kd.R_lt (by (with_reducible repeat (first | apply Kd.R_alloc | apply Kd.R_drewN | apply Kd.R_drew)); exact HO_10.out)) k_ hk, Kd.fresh' (Kd.R_lt (by (with_reducible repeat (first | apply Kd.R_alloc | apply Kd.R_drewN | apply Kd.R_drew)); exact HO241.out)) k_ hk⟩))
                                                  (case aO => exact (by (with_reducible repeat (first | apply Kd.R_alloc | apply Kd.R_drewN | apply Kd.R_drew)); exact Kd.R_mono HO230.out (fun _ hk => ⟨hk.1.1.1.2, ⟨hk.1.1.2, ⟨hk.1.2, hk.2⟩⟩⟩)))
                                                  (case aS => exact (below_size (by repeat (first | (with_reducible first | exact HB.out | apply below_alloc | apply pw_below_drewN | apply below_drew1 | refine below_set ?_ GE180.out) | exact HB.out))))
                                                  (case aL => have := LMc60.out; omega)
                                                  intro v236 w85 ho hb hg hat
                                                  rw [← Ny235.out] at ho
                                                  have n0_ := Aside0.mk (Kd.R_after (ok := (fun k_ => some k_ ≠ (.slice Ao73 x9_2.length co73 : Value).ownBlock ∧ some k_ ≠ (.slice Ao75 x10_2.length co75 : Value).ownBlock ∧ some k_ ≠ (v240 : Value).ownBlock)) (by (with_reducible repeat (first | apply Kd.R_alloc | apply Kd.R_drewN | apply Kd.R_drew)); exact Kd.R_mono HO_8.out (fun _ hk => ⟨⟨hk.1.1.1, ⟨hk.1.1.2, hk.1.2⟩⟩, hk.2⟩)) hg hat)
                                                  have n1_ := Aside0.mk (Kd.R_after (ok := (fun k_ => some k_ ≠ (.slice (some ad238) x8_2.length co71 : Value).ownBlock ∧ some k_ ≠ (.slice Ao75 x10_2.length co75 : Value).ownBlock ∧ some k_ ≠ (v240 : Value).ownBlock)) (by (with_reducible repeat (first | apply Kd.R_alloc | apply Kd.R_drewN | apply Kd.R_drew)); exact Kd.R_mono HO_9.out (fun _ hk => ⟨⟨hk.1.1.1, ⟨hk.1.1.2, hk.1.2⟩⟩, hk.2⟩)) hg hat)
                                                  have n2_ := Aside0.mk (Kd.R_after (ok := (fun k_ => some k_ ≠ (.slice (some ad238) x8_2.length co71 : Value).ownBlock ∧ some k_ ≠ (.slice Ao73 x9_2.length co73 : Value).ownBlock ∧ some k_ ≠ (v240 : Value).ownBlock)) (by (with_reducible repeat (first | apply Kd.R_alloc | apply Kd.R_drewN | apply Kd.R_drew)); exact Kd.R_mono HO_10.out (fun _ hk => ⟨⟨hk.1.1.1, ⟨hk.1.1.2, hk.1.2⟩⟩, hk.2⟩)) hg hat)
                                                  have n3_ := Aside0.mk (blk_grown (g := gb180) (o := .cells #[.int .i32 a1_0, .int .i32 a1_1] 44 (0, 0)) (by (with_reducible repeat (first | refine blk_drewN ?_ _ | refine blk_drew ?_ | refine blk_alloc ?_ _)); exact BK180.out) hg (Kd.R_ne HO230.out BK180.out (by decide)))
                                                  have n4_ := Aside0.mk (Kd.R_after (ok := (fun k_ => some k_ ≠ (.slice (some ad238) x8_2.length co71 : Value).ownBlock ∧ some k_ ≠ (.slice Ao73 x9_2.length co73 : Value).ownBlock ∧ some k_ ≠ (.slice Ao75 x10_2.length co75 : Value).ownBlock)) (by (with_reducible repeat (first | apply Kd.R_alloc | apply Kd.R_drewN | apply Kd.R_drew)); exact Kd.R_mono HO241.out (fun _ hk => ⟨⟨hk.1.1.1.2, ⟨hk.1.1.2, hk.1.2⟩⟩, hk.2⟩)) hg hat)
                                                  have n5_ := Aside0.mk (hb)
                                                  have n6_ := Aside0.mk ((show Kd.C k23 w85 (some ad238) y222.length y222 from by rw [Ny222.out]; exact Kd.C_take (m := ((ji53) : Int).toNat) ((Kd.R_reads' (Kd.R_after (ok := (fun k_ => some k_ ≠ (.slice Ao73 x9_2.length co73 : Value).ownBlock ∧ some k_ ≠ (.slice Ao75 x10_2.length co75 : Value).ownBlock ∧ some k_ ≠ (v240 : Value).ownBlock)) (by (with_reducible repeat (first | apply Kd.R_alloc | apply Kd.R_drewN | apply Kd.R_drew)); exact Kd.R_mono HO_8.out (fun _ hk => ⟨⟨hk.1.1.1, ⟨hk.1.1.2, hk.1.2⟩⟩, hk.2⟩)) hg hat)).2.2) KL77.out))
                                                  have n7_ := Aside0.mk ((show Kd.C k23 w85 A80 y231.length y231 from by rw [Ny231.out, KA80.out]; exact Kd.C_drop (m := ((ji57) : Int).toNat) (c := co71) ((Kd.R_reads' (Kd.R_after (ok := (fun k_ => some k_ ≠ (.slice Ao73 x9_2.length co73 : Value).ownBlock ∧ some k_ ≠ (.slice Ao75 x10_2.length co75 : Value).ownBlock ∧ some k_ ≠ (v240 : Value).ownBlock)) (by (with_reducible repeat (first | apply Kd.R_alloc | apply Kd.R_drewN | apply Kd.R_drew)); exact Kd.R_mono HO_8.out (fun _ hk => ⟨⟨hk.1.1.1, ⟨hk.1.1.2, hk.1.2⟩⟩, hk.2⟩)) hg hat)).2.2) KL80.out ((Kd.R_reads' (Kd.R_after (ok := (fun k_ => some k_ ≠ (.slice Ao73 x9_2.length co73 : Value).ownBlock ∧ some k_ ≠ (.slice Ao75 x10_2.length co75 : Value).ownBlock ∧ some k_ ≠ (v240 : Value).ownBlock)) (by (with_reducible repeat (first | apply Kd.R_alloc | apply Kd.R_drewN | apply Kd.R_drew)); exact Kd.R_mono HO_8.out (fun _ hk => ⟨⟨hk.1.1.1, ⟨hk.1.1.2, hk.1.2⟩⟩, hk.2⟩)) hg hat)).2.1)))
                                                  have n8_ := Aside0.mk (ho)
                                                  clear HO_8
                                                  clear HO_9
                                                  clear HO_10
                                                  clear BK180
                                                  clear HO241
                                                  clear HB
                                                  clear HR225
                                                  clear HR234
                                                  clear HO230
                                                  have HO_8 := n0_
                                                  have HO_9 := n1_
                                                  have HO_10 := n2_
                                                  have BK180 := n3_
                                                  have HO241 := n4_
                                                  have HB := n5_
                                                  have HR225 := n6_
                                                  have HR234 := n7_
                                                  have HO237 := n8_
                                                  clear n0_ n1_ n2_ n3_ n4_ n5_ n6_ n7_ n8_
                                                  clear ho hb hg hat
                                                  have HS0_ := (Aid.re1 (at_T23 (Kd.R_reads' HO_8.out).2.2 0 (of_eq_true p238) (of_eq_true q238))).1
                                                  (try rw [show ((0 : Int)).toNat = 0 from rfl] at HS0_)
                                                  (try rw [show 0 * 2 = 0 from rfl] at HS0_)
                                                  (try rw [Addr.add_zero'] at HS0_)
                                                  have HS1_ := (Aid.re1 (at_T23 (Kd.R_reads' HO_8.out).2.2 0 (of_eq_true p238) (of_eq_true q238))).2
                                                  (try rw [show ((0 : Int)).toNat = 0 from rfl] at HS1_)
                                                  (try rw [show 0 * 2 = 0 from rfl] at HS1_)
                                                  (try rw [Addr.add_zero'] at HS1_)
                                                  refine hK.out _ _ ⟨HS0_, HS1_⟩ (fun hHeld => ?_)
                                                  clear hK K
                                                  refine norm_ (a' := ?_) ?_ ?_
                                                  rotate_left
                                                  · show Act.put _ (some 137) _ = _
                                                    simp only [Act.put, List.setIfInBounds_toArray, List.set_cons_zero, List.set_cons_succ, i64_w, i32_w]
                                                    rfl
                                                  exact norm_ (by simp only [putAll, Act.put, List.setIfInBounds_toArray, List.set_cons_zero, List.set_cons_succ]) (hCont (v229, v236, v240) _ ⟨hHeld, (by (with_reducible repeat (first | apply Kd.R_alloc | apply Kd.R_drewN | apply Kd.R_drew)); exact Kd.R_mono HO237.out (fun _ hk => ⟨hk.2.2.2, ⟨hk.2.2.1, ⟨hk.1, hk.2.1⟩⟩⟩)), (by (with_reducible repeat (first | apply Kd.R_alloc | apply Kd.R_drewN | apply Kd.R_drew)); exact Kd.R_mono HO241.out (fun _ hk => ⟨hk.2, ⟨hk.1.2.2, ⟨hk.1.1, hk.1.2.1⟩⟩⟩)), (by (with_reducible repeat (first | apply Kd.R_alloc | apply Kd.R_drewN | apply Kd.R_drew)); exact Kd.R_mono HO_10.out (fun _ hk => ⟨hk.2, ⟨hk.1.2.2, ⟨hk.1.1, hk.1.2.1⟩⟩⟩)), (by (with_reducible repeat (first | apply Kd.R_alloc | apply Kd.R_drewN | apply Kd.R_drew)); exact Kd.R_mono HO_8.out (fun _ hk => ⟨hk.2, ⟨hk.1.2.2, ⟨hk.1.2.1, hk.1.1⟩⟩⟩)), (by (with_reducible repeat (first | apply Kd.R_alloc | apply Kd.R_drewN | apply Kd.R_drew)); exact Kd.R_mono HO_9.out (fun _ hk => ⟨hk.2, ⟨hk.1.2.2, ⟨hk.1.2.1, hk.1.1⟩⟩⟩)), (by (with_reducible repeat (first | refine blk_drewN ?_ _ | refine blk_drew ?_ | refine blk_alloc ?_ _)); exact BK180.out), (by repeat (first | (with_reducible first | exact HB.out | apply below_alloc | apply pw_below_drewN | apply below_drew1 | refine below_set ?_ GE180.out) | exact HB.out))⟩)
                                              rintro ⟨v229, v236, v240⟩ w86 ⟨hS_, h0_, h1_, h2_, h3_, h4_, h5_, h6_⟩
                                              have n0_ : Aside0 (Kd.R k23 23 w86 w.heap.size (fun k_ => some k_ ≠ (v240 : Value).ownBlock ∧ some k_ ≠ (.slice Ao75 x10_2.length co75 : Value).ownBlock ∧ some k_ ≠ (.slice (some ad238) x8_2.length co71 : Value).ownBlock ∧ some k_ ≠ (.slice Ao73 x9_2.length co73 : Value).ownBlock) v236 y235) := ⟨h0_⟩
                                              have n1_ : Aside0 (Kd.R k23 23 w86 w.heap.size (fun k_ => some k_ ≠ (v236 : Value).ownBlock ∧ some k_ ≠ (.slice Ao75 x10_2.length co75 : Value).ownBlock ∧ some k_ ≠ (.slice (some ad238) x8_2.length co71 : Value).ownBlock ∧ some k_ ≠ (.slice Ao73 x9_2.length co73 : Value).ownBlock) v240 y239) := ⟨h1_⟩
                                              have n2_ : Aside0 (Kd.R k23 23 w86 w.heap.size (fun k_ => some k_ ≠ (v236 : Value).ownBlock ∧ some k_ ≠ (v240 : Value).ownBlock ∧ some k_ ≠ (.slice (some ad238) x8_2.length co71 : Value).ownBlock ∧ some k_ ≠ (.slice Ao73 x9_2.length co73 : Value).ownBlock) (.slice Ao75 x10_2.length co75) x10_2) := ⟨h2_⟩
                                              have n3_ : Aside0 (Kd.R k23 23 w86 w.heap.size (fun k_ => some k_ ≠ (v236 : Value).ownBlock ∧ some k_ ≠ (v240 : Value).ownBlock ∧ some k_ ≠ (.slice Ao75 x10_2.length co75 : Value).ownBlock ∧ some k_ ≠ (.slice Ao73 x9_2.length co73 : Value).ownBlock) (.slice (some ad238) x8_2.length co71) x8_2) := ⟨h3_⟩
                                              have n4_ : Aside0 (Kd.R k23 23 w86 w.heap.size (fun k_ => some k_ ≠ (v236 : Value).ownBlock ∧ some k_ ≠ (v240 : Value).ownBlock ∧ some k_ ≠ (.slice Ao75 x10_2.length co75 : Value).ownBlock ∧ some k_ ≠ (.slice (some ad238) x8_2.length co71 : Value).ownBlock) (.slice Ao73 x9_2.length co73) x9_2) := ⟨h4_⟩
                                              have n5_ : Aside0 (w86.heap[gb180]? = some (.cells #[.int .i32 a1_0, .int .i32 a1_1] 44 (0, 0))) := ⟨h5_⟩
                                              have n6_ : Aside0 (Below w.heap.size w w86) := ⟨h6_⟩
                                              clear HO_8
                                              clear HO_9
                                              clear HO_10
                                              clear BK180
                                              clear HR225
                                              clear HB
                                              clear h0_ h1_ h2_ h3_ h4_ h5_ h6_
                                              have HO237 := n0_
                                              have HO241 := n1_
                                              have HO_10 := n2_
                                              have HO_8 := n3_
                                              have HO_9 := n4_
                                              have BK180 := n5_
                                              have HB := n6_
                                              clear n0_ n1_ n2_ n3_ n4_ n5_ n6_
                                              have hHeld : w86.cell? ad238 = some (.int .i64 ((rd_T23 x8_2 0).f0)) ∧ w86.cell? ⟨ad238.block, ad238.off + 1, none⟩ = some (.int .i64 ((rd_T23 x8_2 0).f1)) := hS_
                                              obtain ⟨Ao88, co88, eo88⟩ := Kd.R_slice HO241.out
                                              (first | subst eo88 | (injection eo88 with f1_ f2_ f3_; have f4_ := f1_.symm; have f5_ := f3_.symm; clear f1_ f2_ f3_; subst f4_; subst f5_))
                                              refine norm_ (a' := ?_) ?_ ?_
                                              rotate_left
                                              · simp only [putAll, Act.put, List.setIfInBounds_toArray, List.set_cons_zero, List.set_cons_succ]
                                                rfl
                                              refine one_ (i := 9) (N := some 142) #[true, true, true, true, true, true, true, true, true, true, false, false, false, false, false, false] rfl rfl (one_of HT_.out (by kernel_rfl)) (by decide) (fun K hK => ?_)
                                              refine Kd.R_append_rows_step k23 (w0 := w) w.heap.size (by rfl) (.tmp 137) (.tmp 141) 34 23 (.agg #[(.int .i64 0), (.int .i64 0)]) 16 rfl Try.underlying34 info23 rfl (by decide) (by omega) v236 y235 y239 _ _ _ (fun k_ => some k_ ≠ (.slice (some ad238) x8_2.length co71 : Value).ownBlock ∧ some k_ ≠ (.slice Ao73 x9_2.length co73 : Value).ownBlock ∧ some k_ ≠ (.slice Ao75 x10_2.length co75 : Value).ownBlock ∧ some k_ ≠ (.slice Ao88 y239.length co88 : Value).ownBlock) (fun _ => False) rfl rfl ?aO ?aR (fun _ _ h => h) (fun _ h => h.elim) ?aF ?aB ?aS ?aL ?_
                                              (case aR => repeat (first | exact (Kd.R_reads' HO241.out).2.2 | (with_reducible refine Kd.C_alloc ?_ _) | (with_reducible refine Kd.C_drewN ?_ _) | (with_reducible refine Kd.C_drew ?_)))
                                              (case aB => exact (by repeat (first | (with_reducible first | exact HB.out | apply below_alloc | apply pw_below_drewN | apply below_drew1 | refine below_set ?_ GE180.out) | exact HB.out)))
                                              (case aF => exact (fun k_ hk => ⟨Kd.fresh' (Kd.R_lt (by (with_reducible repeat (first | apply Kd.R_alloc | apply Kd.R_drewN | apply Kd.R_drew)); exact HO_8.out)) k_ hk, Kd.fresh' (Kd.R_lt (by (with_reducible repeat (first | apply Kd.R_alloc | apply Kd.R_drewN | apply Kd.R_drew)); exact HO_9.out)) k_ hk, Kd.fresh' (Kd.R_lt (by (with_reducible repeat (first | apply Kd.R_alloc | apply Kd.R_drewN | apply Kd.R_drew)); exact HO_10.out)) k_ hk, Kd.fresh' (Kd.R_lt (by (with_reducible repeat (first | apply Kd.R_alloc | apply Kd.R_drewN | apply Kd.R_drew)); exact HO241.out)) k_ hk⟩))
                                              (case aO => exact (by (with_reducible repeat (first | apply Kd.R_alloc | apply Kd.R_drewN | apply Kd.R_drew)); exact Kd.R_mono HO237.out (fun _ hk => ⟨hk.2.2.1, ⟨hk.2.2.2, ⟨hk.2.1, hk.1⟩⟩⟩)))
                                              (case aS => exact (below_size (by repeat (first | (with_reducible first | exact HB.out | apply below_alloc | apply pw_below_drewN | apply below_drew1 | refine below_set ?_ GE180.out) | exact HB.out))))
                                              (case aL => have := LMc62.out; omega)
                                              intro v243 w87 ho hb hg hat
                                              rw [← Ny242.out] at ho
                                              have n0_ := Aside0.mk (Kd.R_after (ok := (fun k_ => some k_ ≠ (.slice Ao73 x9_2.length co73 : Value).ownBlock ∧ some k_ ≠ (.slice Ao75 x10_2.length co75 : Value).ownBlock ∧ some k_ ≠ (.slice Ao88 y239.length co88 : Value).ownBlock)) (by (with_reducible repeat (first | apply Kd.R_alloc | apply Kd.R_drewN | apply Kd.R_drew)); exact Kd.R_mono HO_8.out (fun _ hk => ⟨⟨hk.2.2.2, ⟨hk.2.2.1, hk.2.1⟩⟩, hk.1⟩)) hg hat)
                                              have n1_ := Aside0.mk (Kd.R_after (ok := (fun k_ => some k_ ≠ (.slice (some ad238) x8_2.length co71 : Value).ownBlock ∧ some k_ ≠ (.slice Ao75 x10_2.length co75 : Value).ownBlock ∧ some k_ ≠ (.slice Ao88 y239.length co88 : Value).ownBlock)) (by (with_reducible repeat (first | apply Kd.R_alloc | apply Kd.R_drewN | apply Kd.R_drew)); exact Kd.R_mono HO_9.out (fun _ hk => ⟨⟨hk.2.2.2, ⟨hk.2.2.1, hk.2.1⟩⟩, hk.1⟩)) hg hat)
                                              have n2_ := Aside0.mk (Kd.R_after (ok := (fun k_ => some k_ ≠ (.slice (some ad238) x8_2.length co71 : Value).ownBlock ∧ some k_ ≠ (.slice Ao73 x9_2.length co73 : Value).ownBlock ∧ some k_ ≠ (.slice Ao88 y239.length co88 : Value).ownBlock)) (by (with_reducible repeat (first | apply Kd.R_alloc | apply Kd.R_drewN | apply Kd.R_drew)); exact Kd.R_mono HO_10.out (fun _ hk => ⟨⟨hk.2.2.1, ⟨hk.2.2.2, hk.2.1⟩⟩, hk.1⟩)) hg hat)
                                              have n3_ := Aside0.mk (blk_grown (g := gb180) (o := .cells #[.int .i32 a1_0, .int .i32 a1_1] 44 (0, 0)) (by (with_reducible repeat (first | refine blk_drewN ?_ _ | refine blk_drew ?_ | refine blk_alloc ?_ _)); exact BK180.out) hg (Kd.R_ne HO237.out BK180.out (by decide)))
                                              have n4_ := Aside0.mk (Kd.R_after (ok := (fun k_ => some k_ ≠ (.slice (some ad238) x8_2.length co71 : Value).ownBlock ∧ some k_ ≠ (.slice Ao73 x9_2.length co73 : Value).ownBlock ∧ some k_ ≠ (.slice Ao75 x10_2.length co75 : Value).ownBlock)) (by (with_reducible repeat (first | apply Kd.R_alloc | apply Kd.R_drewN | apply Kd.R_drew)); exact Kd.R_mono HO241.out (fun _ hk => ⟨⟨hk.2.2.1, ⟨hk.2.2.2, hk.2.1⟩⟩, hk.1⟩)) hg hat)
                                              have n5_ := Aside0.mk (hb)
                                              have n6_ := Aside0.mk (ho)
                                              clear HO_8
                                              clear HO_9
                                              clear HO_10
                                              clear BK180
                                              clear HO241
                                              clear HB
                                              clear HO237
                                              have HO_8 := n0_
                                              have HO_9 := n1_
                                              have HO_10 := n2_
                                              have BK180 := n3_
                                              have HO241 := n4_
                                              have HB := n5_
                                              have HO244 := n6_
                                              clear n0_ n1_ n2_ n3_ n4_ n5_ n6_
                                              clear ho hb hg hat
                                              obtain ⟨Ao89, co89, eo89⟩ := Kd.R_slice HO244.out
                                              (first | subst eo89 | (injection eo89 with f1_ f2_ f3_; have f4_ := f1_.symm; have f5_ := f3_.symm; clear f1_ f2_ f3_; subst f4_; subst f5_))
                                              have HS0_ := (Aid.re1 (at_T23 (Kd.R_reads' HO_8.out).2.2 0 (of_eq_true p238) (of_eq_true q238))).1
                                              (try rw [show ((0 : Int)).toNat = 0 from rfl] at HS0_)
                                              (try rw [show 0 * 2 = 0 from rfl] at HS0_)
                                              (try rw [Addr.add_zero'] at HS0_)
                                              have HS1_ := (Aid.re1 (at_T23 (Kd.R_reads' HO_8.out).2.2 0 (of_eq_true p238) (of_eq_true q238))).2
                                              (try rw [show ((0 : Int)).toNat = 0 from rfl] at HS1_)
                                              (try rw [show 0 * 2 = 0 from rfl] at HS1_)
                                              (try rw [Addr.add_zero'] at HS1_)
                                              refine hK.out _ _ ⟨HS0_, HS1_⟩ (fun hHeld => ?_)
                                              clear hK K
                                              refine norm_ (a' := ?_) ?_ ?_
                                              rotate_left
                                              · show Act.put _ (some 142) _ = _
                                                simp only [Act.put, List.setIfInBounds_toArray, List.set_cons_zero, List.set_cons_succ, i64_w, i32_w]
                                                rfl
                                              refine one_ (i := 10) (N := some 143) #[true, true, true, true, true, true, true, true, true, true, true, false, false, false, false, false] rfl rfl (one_of HT_.out (by kernel_rfl)) (by decide) (fun K hK => ?_)
                                              refine goes_ Try.func22 (by kernel_rfl) rfl #[.slice Ao89 y242.length co89] (by rfl) rfl rfl (by (try simp only [List.map_toArray, List.map_cons, List.map_nil]); first | done | rfl | (simp only [List.length_drop, List.length_take]; rfl)) ?_
                                              with_reducible refine (gauss_Area.calls k2 _ _ y242 t245 t246 _ ?side1 ?side2 A63.out).mono ?_
                                              (case side1 => repeat (first | exact (Kd.R_reads' HO244.out).2.2 | (with_reducible refine Kd.C_alloc ?_ _) | (with_reducible refine Kd.C_drewN ?_ _) | (with_reducible refine Kd.C_drew ?_)))
                                              (case side2 => exact (Kd.R_reads' HO244.out).2.1)
                                              rintro e w90 ⟨rfl, hb⟩
                                              have HS0_ := (hb.cell (World.block_lt_of_cell? _ _ (hHeld.1))).trans (hHeld.1)
                                              have HS1_ := (hb.cell (World.block_lt_of_cell? _ _ (hHeld.2))).trans (hHeld.2)
                                              refine ⟨_, rfl, ?_⟩
                                              have n0_ := Aside0.mk (Kd.R_below (by (with_reducible repeat (first | apply Kd.R_alloc | apply Kd.R_drewN | apply Kd.R_drew)); exact HO_8.out) hb)
                                              have n1_ := Aside0.mk (Kd.R_below (by (with_reducible repeat (first | apply Kd.R_alloc | apply Kd.R_drewN | apply Kd.R_drew)); exact HO_9.out) hb)
                                              have n2_ := Aside0.mk (Kd.R_below (by (with_reducible repeat (first | apply Kd.R_alloc | apply Kd.R_drewN | apply Kd.R_drew)); exact HO_10.out) hb)
                                              have n3_ := Aside0.mk (Kd.R_below (by (with_reducible repeat (first | apply Kd.R_alloc | apply Kd.R_drewN | apply Kd.R_drew)); exact HO241.out) hb)
                                              have n4_ := Aside0.mk (Kd.R_below (by (with_reducible repeat (first | apply Kd.R_alloc | apply Kd.R_drewN | apply Kd.R_drew)); exact HO244.out) hb)
                                              have n5_ := Aside0.mk (blk_below (g := gb180) (o := .cells #[.int .i32 a1_0, .int .i32 a1_1] 44 (0, 0)) (by (with_reducible repeat (first | refine blk_drewN ?_ _ | refine blk_drew ?_ | refine blk_alloc ?_ _)); exact BK180.out) hb)
                                              have n6_ := Aside0.mk (below_step (by repeat (first | (with_reducible first | exact HB.out | apply below_alloc | apply pw_below_drewN | apply below_drew1 | refine below_set ?_ GE180.out) | exact HB.out)) hb)
                                              clear HO_8
                                              clear HO_9
                                              clear HO_10
                                              clear HO241
                                              clear HO244
                                              clear BK180
                                              clear HB
                                              have HO_8 := n0_
                                              have HO_9 := n1_
                                              have HO_10 := n2_
                                              have HO241 := n3_
                                              have HO244 := n4_
                                              have BK180 := n5_
                                              have HB := n6_
                                              clear n0_ n1_ n2_ n3_ n4_ n5_ n6_
                                              (try clear hb)
                                              (try clear hb2)
                                              (try clear hk)
                                              (try clear hi)
                                              refine hK.out _ _ ⟨HS0_, HS1_⟩ (fun hHeld => ?_)
                                              clear hK K
                                              refine norm_ (a' := ?_) ?_ ?_
                                              rotate_left
                                              · show Act.put _ (some 143) _ = _
                                                simp only [Act.put, List.setIfInBounds_toArray, List.set_cons_zero, List.set_cons_succ, i64_w, i32_w]
                                                rfl
                                              refine pure_ (i := 11) (N := some 132) (v := ?_) (a' := ?_) #[true, true, true, true, true, true, true, true, true, true, true, true, false, false, false, false] rfl rfl (any_of HT_.out (by kernel_rfl)) (fun _ _ _ h => h) (Or.inl ⟨by rfl, ?_⟩) ?_ ?_
                                              rotate_left
                                              · intro w'
                                                go_simp
                                                with_reducible rfl
                                              rotate_left
                                              · simp only [Act.put, List.setIfInBounds_toArray, List.set_cons_zero, List.set_cons_succ, i64_w, i32_w]
                                                rfl
                                              refine pure_ (i := 12) (N := some 144) (v := ?_) (a' := ?_) #[true, true, true, true, true, true, true, true, true, true, true, true, true, false, false, false] rfl rfl (any_of HT_.out (by kernel_rfl)) (fun _ _ _ h => h) (Or.inl ⟨by rfl, ?_⟩) ?_ ?_
                                              rotate_left
                                              · intro w'
                                                go_simp
                                                with_reducible rfl
                                              rotate_left
                                              · simp only [Act.put, List.setIfInBounds_toArray, List.set_cons_zero, List.set_cons_succ, i64_w, i32_w]
                                                rfl
                                              refine pure_ (i := 13) (N := some 145) (v := ?_) (a' := ?_) #[true, true, true, true, true, true, true, true, true, true, true, true, true, true, false, false] rfl rfl (any_of HT_.out (by kernel_rfl)) (fun _ _ _ h => h) (Or.inl ⟨by rfl, ?_⟩) ?_ ?_
                                              rotate_left
                                              · intro w'
                                                go_simp
                                                with_reducible rfl
                                              rotate_left
                                              · simp only [Act.put, List.setIfInBounds_toArray, List.set_cons_zero, List.set_cons_succ, i64_w, i32_w]
                                                rfl
                                              refine pure_ (i := 14) (N := some 20) (v := ?_) (a' := ?_) #[true, true, true, true, true, true, true, true, true, true, true, true, true, true, true, false] rfl rfl (any_of HT_.out (by kernel_rfl)) (fun _ _ _ h => h) (Or.inl ⟨by rfl, ?_⟩) ?_ ?_
                                              rotate_left
                                              · intro w'
                                                go_simp
                                                with_reducible rfl
                                              rotate_left
                                              · simp only [Act.put, List.setIfInBounds_toArray, List.set_cons_zero, List.set_cons_succ, i64_w, i32_w]
                                                rfl
                                              refine pure_ (i := 15) (N := some 21) (v := ?_) (a' := ?_) #[true, true, true, true, true, true, true, true, true, true, true, true, true, true, true, true] rfl rfl (any_of HT_.out (by kernel_rfl)) (fun _ _ _ h => h) (Or.inl ⟨by rfl, ?_⟩) ?_ ?_
                                              rotate_left
                                              · intro w'
                                                go_simp
                                                with_reducible rfl
                                              rotate_left
                                              · simp only [Act.put, List.setIfInBounds_toArray, List.set_cons_zero, List.set_cons_succ, i64_w, i32_w]
                                                rfl
                                              refine done_ (done_of HT_.out (by kernel_rfl)) ?_
                                              try go_wp2
                                              go_ret
                                              exact ⟨by first | rfl | (simp [errW_none, errW_some] <;> rfl) | (simp only [← hji53, ← hji57]; first | rfl | (simp [errW_none, errW_some] <;> rfl)) | (simp [*, errW_none, errW_some] <;> rfl), by repeat (first | (with_reducible first | exact HB.out | apply below_alloc | apply pw_below_drewN | apply below_drew1 | refine below_set ?_ GE180.out) | exact HB.out)⟩
                                            · rw [if_neg c70] at H
                                              exact absurd H (by simp)
                                          · rw [if_neg c69] at H
                                            exact absurd H (by simp)
                                        · rw [if_neg c68] at H
                                          exact absurd H (by simp)
                                      · rw [if_neg c67] at H
                                        exact absurd H (by simp)
                                    · rw [if_neg c66] at H
                                      exact absurd H (by simp)
                                  · rw [if_neg c65] at H
                                    exact absurd H (by simp)
                                · rw [if_neg c64] at H
                                  exact absurd H (by simp)
                              · rw [if_neg c62] at H
                                exact absurd H (by simp)
                            · rw [if_neg c61] at H
                              exact absurd H (by simp)
                          · rw [if_neg c60] at H
                            exact absurd H (by simp)
                        · rw [if_neg c59] at H
                          exact absurd H (by simp)
                      · rw [if_neg c58] at H
                        exact absurd H (by simp)
                    · rw [if_neg c55] at H
                      exact absurd H (by simp)
                  · rw [if_neg c54] at H
                    exact absurd H (by simp)
  · replace c5 := Bool.eq_false_iff.mpr c5
    subst c5
    have H1 : (none) = some r := by rw [if_neg (show ¬ (false = true) by decide)] at H; exact H
    clear H
    have H := H1
    clear H1
    exact absurd H (by simp)

end Go.Proofs.Ytgibokbkobcnaaa.G
