/- What Go functions answer, as Lean functions, and that they do: written by wip/xprint.py of this session (the kit's printer with turns, texts by hand among them). -/
import Derived.Test.YtoghjnmcimniaaaO0
import Derived.Test.YtoghjnmcimniaaaOe0
import Derived.Test.YtoghjnmcimniaaaOd0
import Derived.Test.YtoghjnmcimniaaaOf21
import Derived.Test.YtoghjnmcimniaaaOf49
namespace Go.Proofs.Ytoghjnmcimniaaa.O
open Go.RowKit Go.Proofs.YtoghjnmcimniaaaW.PrintWords Go.Proofs.YtoghjnmcimniaaaW.PrintLast Go.Proofs.YtoghjnmcimniaaaW.PrintMore
attribute [local go_sem] max2_int min2_int max_two min_two max_three min_three max_four min_four   -- for this text's walks alone
set_option linter.unusedVariables false
set_option linter.unusedSimpArgs false

attribute [local go_sem high] eqA33
/-! ### calamusref11_Segs: function 18 -/
def calamusref11_Segs.T9 : Bool × List (List Nat × List Nat) := (true, [([], []), ([], []), ([1], [1]), ([2], [2]), ([0, 3], [0, 3]), ([4], [4]), ([5], [5]), ([], []), ([7], [7]), ([8], [8]), ([9, 6], [9]), ([6, 10, 10], [6, 10]), ([], []), ([12, 11, 11, 0, 1, 2, 3, 4, 5, 6, 7, 8, 9, 10, 11, 12], [11, 12])])
def calamusref11_Segs.B9 : List Nat := [0, 0, 2, 6, 15, 31, 63, 0, 128, 384, 1023, 2047, 0, 8191]
theorem calamusref11_Segs.tab9 : rtab .any (opsOf Try.f18 9) = calamusref11_Segs.T9 := by kernel_rfl
theorem calamusref11_Segs.bits9 : waitsOk calamusref11_Segs.T9.2 calamusref11_Segs.B9 = true := by kernel_rfl
def calamusref11_Segs.T16 : Bool × List (List Nat × List Nat) := (true, [([], []), ([], []), ([1], [1]), ([2], [2]), ([0, 3], [0, 3]), ([4], [4]), ([5], [5]), ([], []), ([7, 6], [7]), ([6, 8, 8], [6, 8]), ([], []), ([10, 9, 9, 0, 1, 2, 3, 4, 5, 6, 7, 8, 9, 10], [9, 10])])
def calamusref11_Segs.B16 : List Nat := [0, 0, 2, 6, 15, 31, 63, 0, 255, 511, 0, 2047]
theorem calamusref11_Segs.tab16 : rtab .any (opsOf Try.f18 16) = calamusref11_Segs.T16 := by kernel_rfl
theorem calamusref11_Segs.bits16 : waitsOk calamusref11_Segs.T16.2 calamusref11_Segs.B16 = true := by kernel_rfl
set_option maxHeartbeats 8000000 in
set_option maxRecDepth 100000 in
theorem calamusref11_Segs.calls (k : Nat) (A0 : Option Addr) (c0 : Nat) (l0 : List (S39)) (r : List (S37)) (w : World) (hr0 : Kd.C k39 w A0 l0.length l0) (hc0 : l0.length ≤ c0) (h : calamusref11_Segs.f k l0 = some r) :
    Calls Try.prog 18 #[.slice A0 l0.length c0] w fun e w' => ∃ v0_ : Value, e = .returned (v0_) ∧ Kd.R k37 37 w' w.heap.size (fun _ => True) v0_ r ∧ Below w.heap.size w w' := by
  have hu39 := Try.underlying39
  have hu33 := Try.underlying33
  have hu37 := Try.underlying37
  have HR0 := Aside0.mk hr0
  have HC0 := Aside0.mk hc0
  clear hr0 hc0
  have HB := Aside0.mk (Below.refl w.heap.size w)
  have H : (if (l0.length : Int) = 0 then (some ([] : List (S37))) else (calamusref11_Segs.l0 k l0 0)) = some r := h
  clear h
  by_cases c2 : (l0.length : Int) = 0
  · rw [if_pos c2] at H
    have c2b0 : ((l0.length : Int) == 0) = true := beq_iff_eq.mpr c2
    have c2b1 : ((l0.length : Int) != 0) = false := bne_eq_false_iff_eq.mpr c2
    clear c2
    obtain rfl := Option.some.inj H
    go_enter Try.func18, Try.ntmps18
    go_wp2
    go_ret
    exact ⟨_, by first | rfl | (simp [errW_none, errW_some] <;> rfl) | (simp [*, errW_none, errW_some] <;> rfl), by first | exact Kd.R_nil _ _ _ _ _ | exact Kd.N_nil _ _ _ _ _ | exact Kd.V_nil _ _ _ _ _ | exact Kd.Q_nil _ _ _ _ _ | exact Kd.S_nil _ _ _ _ _, by repeat (first | (with_reducible first | exact HB.out | apply below_alloc | apply pw_below_drewN | apply below_drew1) | exact HB.out)⟩
  · rw [if_neg c2] at H
    have c2b0 : ((l0.length : Int) == 0) = false := beq_eq_false_iff_ne.mpr c2
    have c2b1 : ((l0.length : Int) != 0) = true := bne_iff_ne.mpr c2
    have c2b2 : ¬ (l0 = []) := fun h_ => c2 (by rw [h_]; rfl)
    have H' := Aside0.mk H
    clear H
    go_enter Try.func18, Try.ntmps18
    go_wp2
    go_loopg [3] k (fun kq v3 w' => ∃ (x3_1 : Int), v3 = .int .i64 x3_1 ∧ Aside0 (calamusref11_Segs.l0 kq l0 x3_1 = some r) ∧ Aside0 (kq ≤ k) ∧ Aside0 (Below w.heap.size w w'))
    case atStart => exact ⟨(0), (by first | rfl | (simp; done) | (simp [*]; done)), H', ⟨Nat.le_refl _⟩, ⟨by repeat (first | (with_reducible first | exact HB.out | apply below_alloc | apply pw_below_drewN | apply below_drew1) | exact HB.out)⟩⟩
    case round =>
      clear H'
      try clear c1
      try clear c2
      try clear c2b0
      try clear c2b1
      try clear c2b2
      try clear p2
      obtain ⟨x3_1, rfl, HA, HK1, HB⟩ := hrel
      cases gk with
      | zero => exact absurd HA.out (by simp [calamusref11_Segs.l0])
      | succ k1 =>
        have H := HA.out
        clear HA
        simp only [calamusref11_Segs.l0] at H
        have HC3 := Aside0.mk H
        clear H
        go_upto_region 4 with (fail)
        go_cut [27] (fun v27 wc => ∃ (kq : Nat) (x27_2 : Bool), v27 = .bool x27_2 ∧ Aside0 (calamusref11_Segs.j1 kq l0 x3_1 x27_2 = some r) ∧ Aside0 (kq ≤ k1) ∧ Aside0 (Below w.heap.size w wc))
        case first =>
          have H := HC3.out
          clear HC3
          by_cases c4 : x3_1 < (l0.length : Int)
          · rw [if_pos c4] at H
            have c4b0 : decide (x3_1 < (l0.length : Int)) = true := decide_eq_true c4
            clear c4
            (first | rw [c4b0] | (simp only [i64_w, i32_w]; rw [c4b0]) | skip)
            by_cases c5 : 0 ≤ x3_1
            · rw [if_pos c5] at H
              have c5b0 : decide (0 ≤ x3_1) = true := decide_eq_true c5
              clear c5
              have H' := Aside0.mk H
              clear H
              have p142 : 0 ≤ (x3_1 : Int) := of_decide_eq_true (by first | (with_reducible assumption) | assumption)
              have q142 : x3_1 < (l0.length : Int) := of_decide_eq_true (by first | (with_reducible assumption) | assumption)
              obtain ⟨ad142, e142, hx142_0, hx142_1, hx142_2⟩ := at_T39 HR0.out x3_1 p142 q142
              cases e142
              replace hx142_0 := (HB.out.cell (World.block_lt_of_cell? w _ hx142_0)).trans hx142_0
              replace hx142_1 := (HB.out.cell (World.block_lt_of_cell? w _ hx142_1)).trans hx142_1
              replace hx142_2 := (HB.out.cell (World.block_lt_of_cell? w _ hx142_2)).trans hx142_2
              replace p142 := eq_true p142
              replace q142 := eq_true q142
              go_wp2
              go_meet
              case rel => exact ⟨_, (!((rd_T39 l0 x3_1).f2)), (by first | rfl | (simp; done) | (simp [*]; done)), H', ⟨by have := HK1.out; first | omega | exact Nat.le_refl _⟩, ⟨by repeat (first | (with_reducible first | exact HB.out | apply below_alloc | apply pw_below_drewN | apply below_drew1) | exact HB.out)⟩⟩
            · rw [if_neg c5] at H
              exact absurd H (by simp)
          · rw [if_neg c4] at H
            have c4b0 : decide (x3_1 < (l0.length : Int)) = false := decide_eq_false c4
            clear c4
            (first | rw [c4b0] | (simp only [i64_w, i32_w]; rw [c4b0]) | skip)
            have H' := Aside0.mk H
            clear H
            go_wp2
            go_meet
            case rel => exact ⟨_, (false), (by first | rfl | (simp; done) | (simp [*]; done)), H', ⟨by have := HK1.out; first | omega | exact Nat.le_refl _⟩, ⟨by repeat (first | (with_reducible first | exact HB.out | apply below_alloc | apply pw_below_drewN | apply below_drew1) | exact HB.out)⟩⟩
        case rest =>
          clear HC3
          try clear c1
          try clear p1
          try clear q1
          try clear hx1
          try clear c2
          try clear c2b0
          try clear c2b1
          try clear c2b2
          try clear p2
          try clear c4
          try clear c4b0
          try clear c5
          try clear c5b0
          try clear hx142_0
          try clear hx142_1
          try clear hx142_2
          try clear p142
          try clear p2
          try clear q142
          obtain ⟨kq, x27_2, rfl, HA, HJ2, HB⟩ := hcut
          cases kq with
          | zero => exact absurd HA.out (by simp [calamusref11_Segs.j1])
          | succ kj2 =>
            have H := HA.out
            clear HA
            simp only [calamusref11_Segs.j1] at H
            by_cases c6 : x27_2 = true
            · subst c6
              have H1 : (calamusref11_Segs.l0 kj2 l0 (wrap64 (x3_1 + 1))) = some r := by rw [if_pos rfl] at H; exact H
              clear H
              have H := H1
              clear H1
              have H' := Aside0.mk H
              clear H
              go_wp2
              go_roundg kj2
              case measure => have := HK1.out; have := HJ2.out; omega
              case rel => exact ⟨(wrap64 (x3_1 + 1)), (by first | rfl | (simp; done) | (simp [*]; done)), H', ⟨by have := HK1.out; have := HJ2.out; omega⟩, ⟨by repeat (first | (with_reducible first | exact HB.out | apply below_alloc | apply pw_below_drewN | apply below_drew1) | exact HB.out)⟩⟩
            · replace c6 := Bool.eq_false_iff.mpr c6
              subst c6
              have H1 : (if x3_1 = (l0.length : Int) then (if 0 ≤ (wrap64 ((l0.length : Int) - 1)) then (if (wrap64 ((l0.length : Int) - 1)) < (l0.length : Int) then ((calamusref11_at.f ((rd_T39 l0 (wrap64 ((l0.length : Int) - 1))).f0) ((rd_T39 l0 (wrap64 ((l0.length : Int) - 1))).f1) ((rd_T39 l0 (wrap64 ((l0.length : Int) - 1))).f2)).bind fun bt144 => (if 0 < (l0.length : Int) then ((calamusref11_at.f ((rd_T39 l0 0).f0) ((rd_T39 l0 0).f1) ((rd_T39 l0 0).f2)).bind fun bt147 => ((calamusref11_Mid.f bt144.1 bt144.2 bt147.1 bt147.2).bind fun bt149 => (if ([] : List (S39)).length < 5864062014805 then (calamusref11_Segs.j2 kj2 l0 0 (([] : List (S39)) ++ [(⟨bt149.1, bt149.2, true⟩ : S39)])) else (none)))) else (none))) else (none)) else (none)) else (calamusref11_Segs.j2 kj2 l0 x3_1 ([] : List (S39)))) = some r := by rw [if_neg (show ¬ (false = true) by decide)] at H; exact H
              clear H
              have H := H1
              clear H1
              have HC7 := Aside0.mk H
              clear H
              go_upto_if 33 with (fail)
              go_cut [3, 4] (fun v3 v4 wc => ∃ (kq : Nat) (x3_6 : Int) (x4_6 : List (S39)), v3 = .int .i64 x3_6 ∧ Aside0 (calamusref11_Segs.j2 kq l0 x3_6 x4_6 = some r) ∧ Aside0 (kq ≤ kj2) ∧ Aside0 (Kd.R k39 39 wc w.heap.size (fun _ => True) v4 x4_6) ∧ Aside0 (Below w.heap.size w wc))
              case first =>
                have H := HC7.out
                clear HC7
                by_cases c8 : x3_1 = (l0.length : Int)
                · rw [if_pos c8] at H
                  have c8b0 : (x3_1 == (l0.length : Int)) = true := beq_iff_eq.mpr c8
                  have c8b1 : (x3_1 != (l0.length : Int)) = false := bne_eq_false_iff_eq.mpr c8
                  clear c8
                  (first | rw [c8b0] | (simp only [i64_w, i32_w]; rw [c8b0]) | skip)
                  obtain ⟨ji9, hji9⟩ : ∃ j_ : Int, (wrap64 ((l0.length : Int) - 1)) = j_ := ⟨_, rfl⟩
                  replace H : (if 0 ≤ (ji9) then (if (ji9) < (l0.length : Int) then ((calamusref11_at.f ((rd_T39 l0 (ji9)).f0) ((rd_T39 l0 (ji9)).f1) ((rd_T39 l0 (ji9)).f2)).bind fun bt144 => (if 0 < (l0.length : Int) then ((calamusref11_at.f ((rd_T39 l0 0).f0) ((rd_T39 l0 0).f1) ((rd_T39 l0 0).f2)).bind fun bt147 => ((calamusref11_Mid.f bt144.1 bt144.2 bt147.1 bt147.2).bind fun bt149 => (if ([] : List (S39)).length < 5864062014805 then (calamusref11_Segs.j2 kj2 l0 0 (([] : List (S39)) ++ [(⟨bt149.1, bt149.2, true⟩ : S39)])) else (none)))) else (none))) else (none)) else (none)) = some r := by first | (rw [hji9] at H; exact H) | (simp only [hji9] at H ⊢; exact H)
                  have hji9w : (IntKind.i64.wrap ((l0.length : Int) - 1)) = ji9 := (i64_w _).trans hji9
                  by_cases c10 : 0 ≤ (ji9)
                  · rw [if_pos c10] at H
                    have c10b0 : decide (0 ≤ (ji9)) = true := decide_eq_true c10
                    clear c10
                    by_cases c11 : (ji9) < (l0.length : Int)
                    · rw [if_pos c11] at H
                      have c11b0 : decide ((ji9) < (l0.length : Int)) = true := decide_eq_true c11
                      clear c11
                      replace H := Option.bind_eq_some_iff.mp H
                      obtain ⟨⟨t144, t145⟩, A120, H⟩ := H
                      replace H : (if 0 < (l0.length : Int) then ((calamusref11_at.f ((rd_T39 l0 0).f0) ((rd_T39 l0 0).f1) ((rd_T39 l0 0).f2)).bind fun bt147 => ((calamusref11_Mid.f t144 t145 bt147.1 bt147.2).bind fun bt149 => (if ([] : List (S39)).length < 5864062014805 then (calamusref11_Segs.j2 kj2 l0 0 (([] : List (S39)) ++ [(⟨bt149.1, bt149.2, true⟩ : S39)])) else (none)))) else (none)) = some r := H
                      have A12 := Aside0.mk A120
                      clear A120
                      by_cases c13 : 0 < (l0.length : Int)
                      · rw [if_pos c13] at H
                        have c13b0 : decide (0 < (l0.length : Int)) = true := decide_eq_true c13
                        have c13b1 : decide (0 < l0.length) = true := decide_eq_true (by omega)
                        clear c13
                        replace H := Option.bind_eq_some_iff.mp H
                        obtain ⟨⟨t147, t148⟩, A140, H⟩ := H
                        replace H : ((calamusref11_Mid.f t144 t145 t147 t148).bind fun bt149 => (if ([] : List (S39)).length < 5864062014805 then (calamusref11_Segs.j2 kj2 l0 0 (([] : List (S39)) ++ [(⟨bt149.1, bt149.2, true⟩ : S39)])) else (none))) = some r := H
                        have A14 := Aside0.mk A140
                        clear A140
                        replace H := Option.bind_eq_some_iff.mp H
                        obtain ⟨⟨t149, t150⟩, A150, H⟩ := H
                        replace H : (if ([] : List (S39)).length < 5864062014805 then (calamusref11_Segs.j2 kj2 l0 0 (([] : List (S39)) ++ [(⟨t149, t150, true⟩ : S39)])) else (none)) = some r := H
                        have A15 := Aside0.mk A150
                        clear A150
                        by_cases c16 : ([] : List (S39)).length < 5864062014805
                        · rw [if_pos c16] at H
                          have LMc16 := Aside0.mk c16
                          clear c16
                          obtain ⟨y152, hy152⟩ : ∃ y_ : List (S39), y_ = (([] : List (S39)) ++ [(⟨t149, t150, true⟩ : S39)]) := ⟨_, rfl⟩
                          replace H : (calamusref11_Segs.j2 kj2 l0 0 y152) = some r := by first | (rw [hy152]; with_reducible exact H) | (have H2_ := (Option.bind_some _ _).symm.trans H; rw [hy152]; with_reducible exact H2_) | (have H2_ := (Option.bind_some _ _).symm.trans H; with_reducible exact H2_) | with_reducible exact H | (rw [hy152]; exact H) | exact H
                          have Ny152 := Aside0.mk hy152
                          clear hy152
                          have H' := Aside0.mk H
                          clear H
                          try go_wp2
                          have n0_ := Aside0.mk (below_drew1 HB.out)
                          clear HB
                          have HB := n0_
                          clear n0_
                          have p143 : 0 ≤ ((ji9) : Int) := of_decide_eq_true (by first | (with_reducible assumption) | assumption)
                          have q143 : (ji9) < (l0.length : Int) := of_decide_eq_true (by first | (with_reducible assumption) | assumption)
                          obtain ⟨ad143, e143, hx143_0, hx143_1, hx143_2⟩ := at_T39 HR0.out (ji9) p143 q143
                          have hw143_2 := hx143_2
                          have hw143_1 := hx143_1
                          have hw143_0 := hx143_0
                          cases e143
                          replace hx143_0 := (HB.out.cell (World.block_lt_of_cell? w _ hx143_0)).trans hx143_0
                          replace hx143_1 := (HB.out.cell (World.block_lt_of_cell? w _ hx143_1)).trans hx143_1
                          replace hx143_2 := (HB.out.cell (World.block_lt_of_cell? w _ hx143_2)).trans hx143_2
                          replace p143 := eq_true p143
                          replace q143 := eq_true q143
                          have p146 : 0 ≤ (0 : Int) := (by omega)
                          have q146 : 0 < (l0.length : Int) := of_decide_eq_true (by first | (with_reducible assumption) | assumption)
                          obtain ⟨ad146, e146, hx146_0, hx146_1, hx146_2⟩ := at_T39 HR0.out 0 p146 q146
                          have hw146_2 := hx146_2
                          (try rw [show ((0 : Int)).toNat = 0 from rfl] at hw146_2)
                          (try rw [show 0 * 3 = 0 from rfl] at hw146_2)
                          (try rw [Addr.add_zero'] at hw146_2)
                          have hw146_1 := hx146_1
                          (try rw [show ((0 : Int)).toNat = 0 from rfl] at hw146_1)
                          (try rw [show 0 * 3 = 0 from rfl] at hw146_1)
                          (try rw [Addr.add_zero'] at hw146_1)
                          have hw146_0 := hx146_0
                          (try rw [show ((0 : Int)).toNat = 0 from rfl] at hw146_0)
                          (try rw [show 0 * 3 = 0 from rfl] at hw146_0)
                          (try rw [Addr.add_zero'] at hw146_0)
                          obtain rfl : ad143 = ad146 := (by injection e146)
                          have qi146 : (0 < l0.length) = True := eq_true (by omega)
                          (try rw [show ((0 : Int)).toNat = 0 from rfl] at hx146_0)
                          (try rw [show 0 * 3 = 0 from rfl] at hx146_0)
                          (try rw [Addr.add_zero'] at hx146_0)
                          (try rw [show ((0 : Int)).toNat = 0 from rfl] at hx146_1)
                          (try rw [show 0 * 3 = 0 from rfl] at hx146_1)
                          (try rw [Addr.add_zero'] at hx146_1)
                          (try rw [show ((0 : Int)).toNat = 0 from rfl] at hx146_2)
                          (try rw [show 0 * 3 = 0 from rfl] at hx146_2)
                          (try rw [Addr.add_zero'] at hx146_2)
                          replace hx146_0 := (HB.out.cell (World.block_lt_of_cell? w _ hx146_0)).trans hx146_0
                          replace hx146_1 := (HB.out.cell (World.block_lt_of_cell? w _ hx146_1)).trans hx146_1
                          replace hx146_2 := (HB.out.cell (World.block_lt_of_cell? w _ hx146_2)).trans hx146_2
                          replace p146 := eq_true p146
                          replace q146 := eq_true q146
                          refine start_ (n := 14) (S := fun w' => w'.cell? (ad143.add (((ji9)).toNat * 3)) = some (.int .i64 ((rd_T39 l0 (ji9)).f0)) ∧ w'.cell? ⟨(ad143.add (((ji9)).toNat * 3)).block, (ad143.add (((ji9)).toNat * 3)).off + 1, none⟩ = some (.int .i64 ((rd_T39 l0 (ji9)).f1)) ∧ w'.cell? ⟨(ad143.add (((ji9)).toNat * 3)).block, (ad143.add (((ji9)).toNat * 3)).off + 2, none⟩ = some (.bool ((rd_T39 l0 (ji9)).f2)) ∧ w'.cell? ad143 = some (.int .i64 ((rd_T39 l0 0).f0)) ∧ w'.cell? ⟨ad143.block, ad143.off + 1, none⟩ = some (.int .i64 ((rd_T39 l0 0).f1)) ∧ w'.cell? ⟨ad143.block, ad143.off + 2, none⟩ = some (.bool ((rd_T39 l0 0).f2))) (ds := []) #[false, false, false, false, false, false, false, false, false, false, false, false, false, false] (by kernel_rfl) rfl rfl ⟨((HB.out.cell (World.block_lt_of_cell? w _ hw143_0)).trans hw143_0), ((HB.out.cell (World.block_lt_of_cell? w _ hw143_1)).trans hw143_1), ((HB.out.cell (World.block_lt_of_cell? w _ hw143_2)).trans hw143_2), ((HB.out.cell (World.block_lt_of_cell? w _ hw146_0)).trans hw146_0), ((HB.out.cell (World.block_lt_of_cell? w _ hw146_1)).trans hw146_1), ((HB.out.cell (World.block_lt_of_cell? w _ hw146_2)).trans hw146_2)⟩ (fun hHeld => ?_); refine with_tabW calamusref11_Segs.tab9 calamusref11_Segs.bits9 (fun HT_ HW_ => ?_)
                          generalize wc.drew = w17 at HB hx143_0 hx143_1 hx143_2 hx146_0 hx146_1 hx146_2 hHeld ⊢
                          refine pure_ (i := 0) (N := some 34) (v := ?_) (a' := ?_) #[true, false, false, false, false, false, false, false, false, false, false, false, false, false] rfl rfl (any_of HT_.out (by kernel_rfl)) (fun _ _ _ h => h) (Or.inl ⟨by rfl, ?_⟩) ?_ ?_
                          rotate_left
                          · intro w'
                            go_simp
                            with_reducible rfl
                          rotate_left
                          · simp only [Act.put, List.setIfInBounds_toArray, List.set_cons_zero, List.set_cons_succ, i64_w, i32_w]
                            rfl
                          refine pure_ (i := 1) (N := some 35) (v := ?_) (a' := ?_) #[true, true, false, false, false, false, false, false, false, false, false, false, false, false] rfl rfl (any_of HT_.out (by kernel_rfl)) (fun _ _ _ h => h) (Or.inl ⟨by rfl, ?_⟩) ?_ ?_
                          rotate_left
                          · intro w'
                            go_simp
                            with_reducible rfl
                          rotate_left
                          · simp only [Act.put, List.setIfInBounds_toArray, List.set_cons_zero, List.set_cons_succ, i64_w, i32_w]
                            rfl
                          refine pure_ (i := 2) (N := some 36) (v := ?_) (a' := ?_) #[true, true, true, false, false, false, false, false, false, false, false, false, false, false] rfl rfl (any_of HT_.out (by kernel_rfl)) (fun _ _ _ h => h) (Or.inl ⟨by rfl, ?_⟩) ?_ ?_
                          rotate_left
                          · intro w'
                            go_simp
                            with_reducible rfl
                          rotate_left
                          · simp only [Act.put, List.setIfInBounds_toArray, List.set_cons_zero, List.set_cons_succ, i64_w, i32_w]
                            rfl
                          refine pure_ (i := 3) (N := some 37) (v := ?_) (a' := ?_) #[true, true, true, true, false, false, false, false, false, false, false, false, false, false] rfl rfl (any_of HT_.out (by kernel_rfl)) (fun _ _ _ h => h) (Or.inl ⟨by rfl, ?_⟩) ?_ ?_
                          rotate_left
                          · intro w'
                            go_simp
                            with_reducible rfl
                          rotate_left
                          · simp only [Act.put, List.setIfInBounds_toArray, List.set_cons_zero, List.set_cons_succ, i64_w, i32_w]
                            rfl
                          refine pure_ (i := 4) (N := some 38) (v := ?_) (a' := ?_) #[true, true, true, true, true, false, false, false, false, false, false, false, false, false] rfl rfl (any_of HT_.out (by kernel_rfl)) (fun _ _ _ h => h) (Or.inl ⟨by rfl, ?_⟩) ?_ ?_
                          rotate_left
                          · intro w'
                            go_simp
                            with_reducible rfl
                          rotate_left
                          · simp only [Act.put, List.setIfInBounds_toArray, List.set_cons_zero, List.set_cons_succ, i64_w, i32_w]
                            rfl
                          refine pure_ (i := 7) (N := some 41) (v := ?_) (a' := ?_) #[true, true, true, true, true, false, false, true, false, false, false, false, false, false] rfl rfl (any_of HT_.out (by kernel_rfl)) (fun _ _ _ h => h) (Or.inl ⟨by rfl, ?_⟩) ?_ ?_
                          rotate_left
                          · intro w'
                            go_simp
                            with_reducible rfl
                          rotate_left
                          · simp only [Act.put, List.setIfInBounds_toArray, List.set_cons_zero, List.set_cons_succ, i64_w, i32_w]
                            rfl
                          refine pure_ (i := 8) (N := some 42) (v := ?_) (a' := ?_) #[true, true, true, true, true, false, false, true, true, false, false, false, false, false] rfl rfl (any_of HT_.out (by kernel_rfl)) (fun _ _ _ h => h) (Or.inl ⟨by rfl, ?_⟩) ?_ ?_
                          rotate_left
                          · intro w'
                            go_simp
                            with_reducible rfl
                          rotate_left
                          · simp only [Act.put, List.setIfInBounds_toArray, List.set_cons_zero, List.set_cons_succ, i64_w, i32_w]
                            rfl
                          refine take_ (i := 5) (N := some 39) (v := ?_) (a' := ?_) #[true, true, true, true, true, true, false, true, true, false, false, false, false, false] rfl rfl (take_ofW HT_.out HW_.out (by kernel_rfl)) (fun _ _ _ h => h) (Or.inl ⟨by rfl, ?_⟩) hHeld ?_ ?_
                          rotate_left
                          · rintro w' ⟨s0, s1, s2, s3, s4, s5⟩
                            go_simp
                            with_reducible rfl
                          rotate_left
                          · simp only [Act.put, List.setIfInBounds_toArray, List.set_cons_zero, List.set_cons_succ, i64_w, i32_w]
                            rfl
                          refine take_ (i := 9) (N := some 43) (v := ?_) (a' := ?_) #[true, true, true, true, true, true, false, true, true, true, false, false, false, false] rfl rfl (take_ofW HT_.out HW_.out (by kernel_rfl)) (fun _ _ _ h => h) (Or.inl ⟨by rfl, ?_⟩) hHeld ?_ ?_
                          rotate_left
                          · rintro w' ⟨s0, s1, s2, s3, s4, s5⟩
                            go_simp
                            with_reducible rfl
                          rotate_left
                          · simp only [Act.put, List.setIfInBounds_toArray, List.set_cons_zero, List.set_cons_succ, i64_w, i32_w]
                            rfl
                          refine join_ (σ := Nat) 1 #[true, true, true, true, true, true, true, true, true, true, true, true, true, false] (fun s_ => [(40, .agg #[.int .i64 t144, .int .i64 t145]), (44, .agg #[.int .i64 t147, .int .i64 t148]), (45, .agg #[.int .i64 t149, .int .i64 t150]), (5, .pointer (some ⟨s_, 0, none⟩))]) (fun s_ w' => (w'.cell? (ad143.add (((ji9)).toNat * 3)) = some (.int .i64 ((rd_T39 l0 (ji9)).f0)) ∧ w'.cell? ⟨(ad143.add (((ji9)).toNat * 3)).block, (ad143.add (((ji9)).toNat * 3)).off + 1, none⟩ = some (.int .i64 ((rd_T39 l0 (ji9)).f1)) ∧ w'.cell? ⟨(ad143.add (((ji9)).toNat * 3)).block, (ad143.add (((ji9)).toNat * 3)).off + 2, none⟩ = some (.bool ((rd_T39 l0 (ji9)).f2)) ∧ w'.cell? ad143 = some (.int .i64 ((rd_T39 l0 0).f0)) ∧ w'.cell? ⟨ad143.block, ad143.off + 1, none⟩ = some (.int .i64 ((rd_T39 l0 0).f1)) ∧ w'.cell? ⟨ad143.block, ad143.off + 2, none⟩ = some (.bool ((rd_T39 l0 0).f2))) ∧ (w'.heap[s_]? = some (.cells #[.int .i64 0, .int .i64 0] 33 (0, 0))) ∧ (w.heap.size ≤ s_) ∧ (w.heap.size ≤ s_) ∧ (Below w.heap.size w w')) ?_ ?_
                          rotate_left
                          · intro hCont
                            refine two_ (i := 6) (j := 12) (Ni := some 40) (Nj := some 5) #[true, true, true, true, true, true, true, true, true, true, false, false, false, false] #[true, true, true, true, true, true, false, true, true, true, false, false, true, false] rfl rfl rfl rfl (two_of HT_.out (by kernel_rfl)) (by decide) (by decide) (fun K hK => ?_) (fun K hK => ?_)
                            · skip
                              refine goes_ Try.func49 (by kernel_rfl) rfl #[.agg #[.int .i64 ((rd_T39 l0 (ji9)).f0), .int .i64 ((rd_T39 l0 (ji9)).f1), .bool ((rd_T39 l0 (ji9)).f2)]] (by rfl) rfl rfl (by (try simp only [List.map_toArray, List.map_cons, List.map_nil]); first | done | (simp only [hji9]; rfl) | rfl | (simp only [List.length_drop, List.length_take]; rfl)) ?_
                              with_reducible refine (calamusref11_at.calls ((rd_T39 l0 (ji9)).f0) ((rd_T39 l0 (ji9)).f1) ((rd_T39 l0 (ji9)).f2) t144 t145 _ A12.out).mono ?_
                              rintro e w18 ⟨rfl, hb⟩
                              refine ⟨_, rfl, ?_⟩
                              have n0_ := Aside0.mk (below_step (by repeat (first | (with_reducible first | exact HB.out | apply below_alloc | apply pw_below_drewN | apply below_drew1) | exact HB.out)) hb)
                              clear HB
                              have HB := n0_
                              clear n0_
                              (try clear hb)
                              (try clear hb2)
                              (try clear hk)
                              (try clear hi)
                              refine hK.out _ _ ⟨((HB.out.cell (World.block_lt_of_cell? w _ hw143_0)).trans hw143_0), ((HB.out.cell (World.block_lt_of_cell? w _ hw143_1)).trans hw143_1), ((HB.out.cell (World.block_lt_of_cell? w _ hw143_2)).trans hw143_2), ((HB.out.cell (World.block_lt_of_cell? w _ hw146_0)).trans hw146_0), ((HB.out.cell (World.block_lt_of_cell? w _ hw146_1)).trans hw146_1), ((HB.out.cell (World.block_lt_of_cell? w _ hw146_2)).trans hw146_2)⟩ (fun hHeld => ?_)
                              clear hK K
                              refine norm_ (a' := ?_) ?_ ?_
                              rotate_left
                              · show Act.put _ (some 40) _ = _
                                simp only [Act.put, List.setIfInBounds_toArray, List.set_cons_zero, List.set_cons_succ, i64_w, i32_w]
                                rfl
                              refine two_ (i := 10) (j := 12) (Ni := some 44) (Nj := some 5) #[true, true, true, true, true, true, true, true, true, true, true, false, false, false] #[true, true, true, true, true, true, true, true, true, true, false, false, true, false] rfl rfl rfl rfl (two_of HT_.out (by kernel_rfl)) (by decide) (by decide) (fun K hK => ?_) (fun K hK => ?_)
                              · skip
                                refine goes_ Try.func49 (by kernel_rfl) rfl #[.agg #[.int .i64 ((rd_T39 l0 0).f0), .int .i64 ((rd_T39 l0 0).f1), .bool ((rd_T39 l0 0).f2)]] (by rfl) rfl rfl (by (try simp only [List.map_toArray, List.map_cons, List.map_nil]); first | done | rfl | (simp only [List.length_drop, List.length_take]; rfl)) ?_
                                with_reducible refine (calamusref11_at.calls ((rd_T39 l0 0).f0) ((rd_T39 l0 0).f1) ((rd_T39 l0 0).f2) t147 t148 _ A14.out).mono ?_
                                rintro e w19 ⟨rfl, hb⟩
                                refine ⟨_, rfl, ?_⟩
                                have n0_ := Aside0.mk (below_step (by repeat (first | (with_reducible first | exact HB.out | apply below_alloc | apply pw_below_drewN | apply below_drew1) | exact HB.out)) hb)
                                clear HB
                                have HB := n0_
                                clear n0_
                                (try clear hb)
                                (try clear hb2)
                                (try clear hk)
                                (try clear hi)
                                refine hK.out _ _ ⟨((HB.out.cell (World.block_lt_of_cell? w _ hw143_0)).trans hw143_0), ((HB.out.cell (World.block_lt_of_cell? w _ hw143_1)).trans hw143_1), ((HB.out.cell (World.block_lt_of_cell? w _ hw143_2)).trans hw143_2), ((HB.out.cell (World.block_lt_of_cell? w _ hw146_0)).trans hw146_0), ((HB.out.cell (World.block_lt_of_cell? w _ hw146_1)).trans hw146_1), ((HB.out.cell (World.block_lt_of_cell? w _ hw146_2)).trans hw146_2)⟩ (fun hHeld => ?_)
                                clear hK K
                                refine norm_ (a' := ?_) ?_ ?_
                                rotate_left
                                · show Act.put _ (some 44) _ = _
                                  simp only [Act.put, List.setIfInBounds_toArray, List.set_cons_zero, List.set_cons_succ, i64_w, i32_w]
                                  rfl
                                refine two_ (i := 11) (j := 12) (Ni := some 45) (Nj := some 5) #[true, true, true, true, true, true, true, true, true, true, true, true, false, false] #[true, true, true, true, true, true, true, true, true, true, true, false, true, false] rfl rfl rfl rfl (two_of HT_.out (by kernel_rfl)) (by decide) (by decide) (fun K hK => ?_) (fun K hK => ?_)
                                · skip
                                  refine goes_ Try.func21 (by kernel_rfl) rfl #[.agg #[.int .i64 t144, .int .i64 t145], .agg #[.int .i64 t147, .int .i64 t148]] (by rfl) rfl rfl (by (try simp only [List.map_toArray, List.map_cons, List.map_nil]); first | done | rfl | (simp only [List.length_drop, List.length_take]; rfl)) ?_
                                  with_reducible refine (calamusref11_Mid.calls t144 t145 t147 t148 t149 t150 _ A15.out).mono ?_
                                  rintro e w20 ⟨rfl, hb⟩
                                  refine ⟨_, rfl, ?_⟩
                                  have n0_ := Aside0.mk (below_step (by repeat (first | (with_reducible first | exact HB.out | apply below_alloc | apply pw_below_drewN | apply below_drew1) | exact HB.out)) hb)
                                  clear HB
                                  have HB := n0_
                                  clear n0_
                                  (try clear hb)
                                  (try clear hb2)
                                  (try clear hk)
                                  (try clear hi)
                                  refine hK.out _ _ ⟨((HB.out.cell (World.block_lt_of_cell? w _ hw143_0)).trans hw143_0), ((HB.out.cell (World.block_lt_of_cell? w _ hw143_1)).trans hw143_1), ((HB.out.cell (World.block_lt_of_cell? w _ hw143_2)).trans hw143_2), ((HB.out.cell (World.block_lt_of_cell? w _ hw146_0)).trans hw146_0), ((HB.out.cell (World.block_lt_of_cell? w _ hw146_1)).trans hw146_1), ((HB.out.cell (World.block_lt_of_cell? w _ hw146_2)).trans hw146_2)⟩ (fun hHeld => ?_)
                                  clear hK K
                                  refine norm_ (a' := ?_) ?_ ?_
                                  rotate_left
                                  · show Act.put _ (some 45) _ = _
                                    simp only [Act.put, List.setIfInBounds_toArray, List.set_cons_zero, List.set_cons_succ, i64_w, i32_w]
                                    rfl
                                  refine one_ (i := 12) (N := some 5) #[true, true, true, true, true, true, true, true, true, true, true, true, true, false] rfl rfl (one_of HT_.out (by kernel_rfl)) (by decide) (fun K hK => ?_)
                                  refine box_step ?hg (N := 5) ?hd (cs := #[.int .i64 0, .int .i64 0]) (t := 33) ?hr ?_; (case hd => rfl); (case hg => rfl); (case hr => first | (go_simp; done) | (go_simp; rfl))
                                  intro gb151 hg w21 hbox hb
                                  have n0_ := Aside0.mk (below_step (by repeat (first | (with_reducible first | exact HB.out | apply below_alloc | apply pw_below_drewN | apply below_drew1) | exact HB.out)) hb)
                                  have n1_ := Aside0.mk (hbox)
                                  have n2_ := Aside0.mk ((by rw [hg]; exact (below_size (by repeat (first | (with_reducible first | exact HB.out | apply below_alloc | apply pw_below_drewN | apply below_drew1) | exact HB.out))) : w.heap.size ≤ gb151))
                                  have n3_ := Aside0.mk ((by rw [hg]; exact (below_size (by repeat (first | (with_reducible first | exact HB.out | apply below_alloc | apply pw_below_drewN | apply below_drew1) | exact HB.out))) : w.heap.size ≤ gb151))
                                  clear HB
                                  have HB := n0_
                                  have BK151 := n1_
                                  have GW151 := n2_
                                  have GE151 := n3_
                                  clear n0_ n1_ n2_ n3_
                                  clear hb hbox hg
                                  refine hK.out _ _ ⟨((HB.out.cell (World.block_lt_of_cell? w _ hw143_0)).trans hw143_0), ((HB.out.cell (World.block_lt_of_cell? w _ hw143_1)).trans hw143_1), ((HB.out.cell (World.block_lt_of_cell? w _ hw143_2)).trans hw143_2), ((HB.out.cell (World.block_lt_of_cell? w _ hw146_0)).trans hw146_0), ((HB.out.cell (World.block_lt_of_cell? w _ hw146_1)).trans hw146_1), ((HB.out.cell (World.block_lt_of_cell? w _ hw146_2)).trans hw146_2)⟩ (fun hHeld => ?_)
                                  clear hK K
                                  refine norm_ (a' := ?_) ?_ ?_
                                  rotate_left
                                  · show Act.put _ (some 5) _ = _
                                    simp only [Act.put, List.setIfInBounds_toArray, List.set_cons_zero, List.set_cons_succ, i64_w, i32_w]
                                    rfl
                                  exact norm_ (by simp only [putAll, Act.put, List.setIfInBounds_toArray, List.set_cons_zero, List.set_cons_succ]) (hCont (gb151) _ ⟨hHeld, (by (with_reducible repeat (first | refine blk_drewN ?_ _ | refine blk_drew ?_ | refine blk_alloc ?_ _)); exact BK151.out), GW151.out, GE151.out, (by repeat (first | (with_reducible first | exact HB.out | apply below_alloc | apply pw_below_drewN | apply below_drew1 | refine below_set ?_ GE151.out) | exact HB.out))⟩)
                                · skip
                                  refine box_step ?hg (N := 5) ?hd (cs := #[.int .i64 0, .int .i64 0]) (t := 33) ?hr ?_; (case hd => rfl); (case hg => rfl); (case hr => first | (go_simp; done) | (go_simp; rfl))
                                  intro gb151 hg w20 hbox hb
                                  have n0_ := Aside0.mk (below_step (by repeat (first | (with_reducible first | exact HB.out | apply below_alloc | apply pw_below_drewN | apply below_drew1) | exact HB.out)) hb)
                                  have n1_ := Aside0.mk (hbox)
                                  have n2_ := Aside0.mk ((by rw [hg]; exact (below_size (by repeat (first | (with_reducible first | exact HB.out | apply below_alloc | apply pw_below_drewN | apply below_drew1) | exact HB.out))) : w.heap.size ≤ gb151))
                                  have n3_ := Aside0.mk ((by rw [hg]; exact (below_size (by repeat (first | (with_reducible first | exact HB.out | apply below_alloc | apply pw_below_drewN | apply below_drew1) | exact HB.out))) : w.heap.size ≤ gb151))
                                  clear HB
                                  have HB := n0_
                                  have BK151 := n1_
                                  have GW151 := n2_
                                  have GE151 := n3_
                                  clear n0_ n1_ n2_ n3_
                                  clear hb hbox hg
                                  refine hK.out _ _ ⟨((HB.out.cell (World.block_lt_of_cell? w _ hw143_0)).trans hw143_0), ((HB.out.cell (World.block_lt_of_cell? w _ hw143_1)).trans hw143_1), ((HB.out.cell (World.block_lt_of_cell? w _ hw143_2)).trans hw143_2), ((HB.out.cell (World.block_lt_of_cell? w _ hw146_0)).trans hw146_0), ((HB.out.cell (World.block_lt_of_cell? w _ hw146_1)).trans hw146_1), ((HB.out.cell (World.block_lt_of_cell? w _ hw146_2)).trans hw146_2)⟩ (fun hHeld => ?_)
                                  clear hK K
                                  refine norm_ (a' := ?_) ?_ ?_
                                  rotate_left
                                  · show Act.put _ (some 5) _ = _
                                    simp only [Act.put, List.setIfInBounds_toArray, List.set_cons_zero, List.set_cons_succ, i64_w, i32_w]
                                    rfl
                                  refine one_ (i := 11) (N := some 45) #[true, true, true, true, true, true, true, true, true, true, true, true, true, false] rfl rfl (one_of HT_.out (by kernel_rfl)) (by decide) (fun K hK => ?_)
                                  refine goes_ Try.func21 (by kernel_rfl) rfl #[.agg #[.int .i64 t144, .int .i64 t145], .agg #[.int .i64 t147, .int .i64 t148]] (by rfl) rfl rfl (by (try simp only [List.map_toArray, List.map_cons, List.map_nil]); first | done | rfl | (simp only [List.length_drop, List.length_take]; rfl)) ?_
                                  with_reducible refine (calamusref11_Mid.calls t144 t145 t147 t148 t149 t150 _ A15.out).mono ?_
                                  rintro e w21 ⟨rfl, hb⟩
                                  refine ⟨_, rfl, ?_⟩
                                  have n0_ := Aside0.mk (blk_below (g := gb151) (o := .cells #[.int .i64 0, .int .i64 0] 33 (0, 0)) (by (with_reducible repeat (first | refine blk_drewN ?_ _ | refine blk_drew ?_ | refine blk_alloc ?_ _)); exact BK151.out) hb)
                                  have n1_ := Aside0.mk (below_step (by repeat (first | (with_reducible first | exact HB.out | apply below_alloc | apply pw_below_drewN | apply below_drew1 | refine below_set ?_ GE151.out) | exact HB.out)) hb)
                                  clear BK151
                                  clear HB
                                  have BK151 := n0_
                                  have HB := n1_
                                  clear n0_ n1_
                                  (try clear hb)
                                  (try clear hb2)
                                  (try clear hk)
                                  (try clear hi)
                                  refine hK.out _ _ ⟨((HB.out.cell (World.block_lt_of_cell? w _ hw143_0)).trans hw143_0), ((HB.out.cell (World.block_lt_of_cell? w _ hw143_1)).trans hw143_1), ((HB.out.cell (World.block_lt_of_cell? w _ hw143_2)).trans hw143_2), ((HB.out.cell (World.block_lt_of_cell? w _ hw146_0)).trans hw146_0), ((HB.out.cell (World.block_lt_of_cell? w _ hw146_1)).trans hw146_1), ((HB.out.cell (World.block_lt_of_cell? w _ hw146_2)).trans hw146_2)⟩ (fun hHeld => ?_)
                                  clear hK K
                                  refine norm_ (a' := ?_) ?_ ?_
                                  rotate_left
                                  · show Act.put _ (some 45) _ = _
                                    simp only [Act.put, List.setIfInBounds_toArray, List.set_cons_zero, List.set_cons_succ, i64_w, i32_w]
                                    rfl
                                  exact norm_ (by simp only [putAll, Act.put, List.setIfInBounds_toArray, List.set_cons_zero, List.set_cons_succ]) (hCont (gb151) _ ⟨hHeld, (by (with_reducible repeat (first | refine blk_drewN ?_ _ | refine blk_drew ?_ | refine blk_alloc ?_ _)); exact BK151.out), GW151.out, GE151.out, (by repeat (first | (with_reducible first | exact HB.out | apply below_alloc | apply pw_below_drewN | apply below_drew1 | refine below_set ?_ GE151.out) | exact HB.out))⟩)
                              · skip
                                refine box_step ?hg (N := 5) ?hd (cs := #[.int .i64 0, .int .i64 0]) (t := 33) ?hr ?_; (case hd => rfl); (case hg => rfl); (case hr => first | (go_simp; done) | (go_simp; rfl))
                                intro gb151 hg w19 hbox hb
                                have n0_ := Aside0.mk (below_step (by repeat (first | (with_reducible first | exact HB.out | apply below_alloc | apply pw_below_drewN | apply below_drew1) | exact HB.out)) hb)
                                have n1_ := Aside0.mk (hbox)
                                have n2_ := Aside0.mk ((by rw [hg]; exact (below_size (by repeat (first | (with_reducible first | exact HB.out | apply below_alloc | apply pw_below_drewN | apply below_drew1) | exact HB.out))) : w.heap.size ≤ gb151))
                                have n3_ := Aside0.mk ((by rw [hg]; exact (below_size (by repeat (first | (with_reducible first | exact HB.out | apply below_alloc | apply pw_below_drewN | apply below_drew1) | exact HB.out))) : w.heap.size ≤ gb151))
                                clear HB
                                have HB := n0_
                                have BK151 := n1_
                                have GW151 := n2_
                                have GE151 := n3_
                                clear n0_ n1_ n2_ n3_
                                clear hb hbox hg
                                refine hK.out _ _ ⟨((HB.out.cell (World.block_lt_of_cell? w _ hw143_0)).trans hw143_0), ((HB.out.cell (World.block_lt_of_cell? w _ hw143_1)).trans hw143_1), ((HB.out.cell (World.block_lt_of_cell? w _ hw143_2)).trans hw143_2), ((HB.out.cell (World.block_lt_of_cell? w _ hw146_0)).trans hw146_0), ((HB.out.cell (World.block_lt_of_cell? w _ hw146_1)).trans hw146_1), ((HB.out.cell (World.block_lt_of_cell? w _ hw146_2)).trans hw146_2)⟩ (fun hHeld => ?_)
                                clear hK K
                                refine norm_ (a' := ?_) ?_ ?_
                                rotate_left
                                · show Act.put _ (some 5) _ = _
                                  simp only [Act.put, List.setIfInBounds_toArray, List.set_cons_zero, List.set_cons_succ, i64_w, i32_w]
                                  rfl
                                refine one_ (i := 10) (N := some 44) #[true, true, true, true, true, true, true, true, true, true, true, false, true, false] rfl rfl (one_of HT_.out (by kernel_rfl)) (by decide) (fun K hK => ?_)
                                refine goes_ Try.func49 (by kernel_rfl) rfl #[.agg #[.int .i64 ((rd_T39 l0 0).f0), .int .i64 ((rd_T39 l0 0).f1), .bool ((rd_T39 l0 0).f2)]] (by rfl) rfl rfl (by (try simp only [List.map_toArray, List.map_cons, List.map_nil]); first | done | rfl | (simp only [List.length_drop, List.length_take]; rfl)) ?_
                                with_reducible refine (calamusref11_at.calls ((rd_T39 l0 0).f0) ((rd_T39 l0 0).f1) ((rd_T39 l0 0).f2) t147 t148 _ A14.out).mono ?_
                                rintro e w20 ⟨rfl, hb⟩
                                refine ⟨_, rfl, ?_⟩
                                have n0_ := Aside0.mk (blk_below (g := gb151) (o := .cells #[.int .i64 0, .int .i64 0] 33 (0, 0)) (by (with_reducible repeat (first | refine blk_drewN ?_ _ | refine blk_drew ?_ | refine blk_alloc ?_ _)); exact BK151.out) hb)
                                have n1_ := Aside0.mk (below_step (by repeat (first | (with_reducible first | exact HB.out | apply below_alloc | apply pw_below_drewN | apply below_drew1 | refine below_set ?_ GE151.out) | exact HB.out)) hb)
                                clear BK151
                                clear HB
                                have BK151 := n0_
                                have HB := n1_
                                clear n0_ n1_
                                (try clear hb)
                                (try clear hb2)
                                (try clear hk)
                                (try clear hi)
                                refine hK.out _ _ ⟨((HB.out.cell (World.block_lt_of_cell? w _ hw143_0)).trans hw143_0), ((HB.out.cell (World.block_lt_of_cell? w _ hw143_1)).trans hw143_1), ((HB.out.cell (World.block_lt_of_cell? w _ hw143_2)).trans hw143_2), ((HB.out.cell (World.block_lt_of_cell? w _ hw146_0)).trans hw146_0), ((HB.out.cell (World.block_lt_of_cell? w _ hw146_1)).trans hw146_1), ((HB.out.cell (World.block_lt_of_cell? w _ hw146_2)).trans hw146_2)⟩ (fun hHeld => ?_)
                                clear hK K
                                refine norm_ (a' := ?_) ?_ ?_
                                rotate_left
                                · show Act.put _ (some 44) _ = _
                                  simp only [Act.put, List.setIfInBounds_toArray, List.set_cons_zero, List.set_cons_succ, i64_w, i32_w]
                                  rfl
                                refine one_ (i := 11) (N := some 45) #[true, true, true, true, true, true, true, true, true, true, true, true, true, false] rfl rfl (one_of HT_.out (by kernel_rfl)) (by decide) (fun K hK => ?_)
                                refine goes_ Try.func21 (by kernel_rfl) rfl #[.agg #[.int .i64 t144, .int .i64 t145], .agg #[.int .i64 t147, .int .i64 t148]] (by rfl) rfl rfl (by (try simp only [List.map_toArray, List.map_cons, List.map_nil]); first | done | rfl | (simp only [List.length_drop, List.length_take]; rfl)) ?_
                                with_reducible refine (calamusref11_Mid.calls t144 t145 t147 t148 t149 t150 _ A15.out).mono ?_
                                rintro e w21 ⟨rfl, hb⟩
                                refine ⟨_, rfl, ?_⟩
                                have n0_ := Aside0.mk (blk_below (g := gb151) (o := .cells #[.int .i64 0, .int .i64 0] 33 (0, 0)) (by (with_reducible repeat (first | refine blk_drewN ?_ _ | refine blk_drew ?_ | refine blk_alloc ?_ _)); exact BK151.out) hb)
                                have n1_ := Aside0.mk (below_step (by repeat (first | (with_reducible first | exact HB.out | apply below_alloc | apply pw_below_drewN | apply below_drew1 | refine below_set ?_ GE151.out) | exact HB.out)) hb)
                                clear BK151
                                clear HB
                                have BK151 := n0_
                                have HB := n1_
                                clear n0_ n1_
                                (try clear hb)
                                (try clear hb2)
                                (try clear hk)
                                (try clear hi)
                                refine hK.out _ _ ⟨((HB.out.cell (World.block_lt_of_cell? w _ hw143_0)).trans hw143_0), ((HB.out.cell (World.block_lt_of_cell? w _ hw143_1)).trans hw143_1), ((HB.out.cell (World.block_lt_of_cell? w _ hw143_2)).trans hw143_2), ((HB.out.cell (World.block_lt_of_cell? w _ hw146_0)).trans hw146_0), ((HB.out.cell (World.block_lt_of_cell? w _ hw146_1)).trans hw146_1), ((HB.out.cell (World.block_lt_of_cell? w _ hw146_2)).trans hw146_2)⟩ (fun hHeld => ?_)
                                clear hK K
                                refine norm_ (a' := ?_) ?_ ?_
                                rotate_left
                                · show Act.put _ (some 45) _ = _
                                  simp only [Act.put, List.setIfInBounds_toArray, List.set_cons_zero, List.set_cons_succ, i64_w, i32_w]
                                  rfl
                                exact norm_ (by simp only [putAll, Act.put, List.setIfInBounds_toArray, List.set_cons_zero, List.set_cons_succ]) (hCont (gb151) _ ⟨hHeld, (by (with_reducible repeat (first | refine blk_drewN ?_ _ | refine blk_drew ?_ | refine blk_alloc ?_ _)); exact BK151.out), GW151.out, GE151.out, (by repeat (first | (with_reducible first | exact HB.out | apply below_alloc | apply pw_below_drewN | apply below_drew1 | refine below_set ?_ GE151.out) | exact HB.out))⟩)
                            · skip
                              refine box_step ?hg (N := 5) ?hd (cs := #[.int .i64 0, .int .i64 0]) (t := 33) ?hr ?_; (case hd => rfl); (case hg => rfl); (case hr => first | (go_simp; done) | (go_simp; rfl))
                              intro gb151 hg w18 hbox hb
                              have n0_ := Aside0.mk (below_step (by repeat (first | (with_reducible first | exact HB.out | apply below_alloc | apply pw_below_drewN | apply below_drew1) | exact HB.out)) hb)
                              have n1_ := Aside0.mk (hbox)
                              have n2_ := Aside0.mk ((by rw [hg]; exact (below_size (by repeat (first | (with_reducible first | exact HB.out | apply below_alloc | apply pw_below_drewN | apply below_drew1) | exact HB.out))) : w.heap.size ≤ gb151))
                              have n3_ := Aside0.mk ((by rw [hg]; exact (below_size (by repeat (first | (with_reducible first | exact HB.out | apply below_alloc | apply pw_below_drewN | apply below_drew1) | exact HB.out))) : w.heap.size ≤ gb151))
                              clear HB
                              have HB := n0_
                              have BK151 := n1_
                              have GW151 := n2_
                              have GE151 := n3_
                              clear n0_ n1_ n2_ n3_
                              clear hb hbox hg
                              refine hK.out _ _ ⟨((HB.out.cell (World.block_lt_of_cell? w _ hw143_0)).trans hw143_0), ((HB.out.cell (World.block_lt_of_cell? w _ hw143_1)).trans hw143_1), ((HB.out.cell (World.block_lt_of_cell? w _ hw143_2)).trans hw143_2), ((HB.out.cell (World.block_lt_of_cell? w _ hw146_0)).trans hw146_0), ((HB.out.cell (World.block_lt_of_cell? w _ hw146_1)).trans hw146_1), ((HB.out.cell (World.block_lt_of_cell? w _ hw146_2)).trans hw146_2)⟩ (fun hHeld => ?_)
                              clear hK K
                              refine norm_ (a' := ?_) ?_ ?_
                              rotate_left
                              · show Act.put _ (some 5) _ = _
                                simp only [Act.put, List.setIfInBounds_toArray, List.set_cons_zero, List.set_cons_succ, i64_w, i32_w]
                                rfl
                              refine one_ (i := 6) (N := some 40) #[true, true, true, true, true, true, true, true, true, true, false, false, true, false] rfl rfl (one_of HT_.out (by kernel_rfl)) (by decide) (fun K hK => ?_)
                              refine goes_ Try.func49 (by kernel_rfl) rfl #[.agg #[.int .i64 ((rd_T39 l0 (ji9)).f0), .int .i64 ((rd_T39 l0 (ji9)).f1), .bool ((rd_T39 l0 (ji9)).f2)]] (by rfl) rfl rfl (by (try simp only [List.map_toArray, List.map_cons, List.map_nil]); first | done | (simp only [hji9]; rfl) | rfl | (simp only [List.length_drop, List.length_take]; rfl)) ?_
                              with_reducible refine (calamusref11_at.calls ((rd_T39 l0 (ji9)).f0) ((rd_T39 l0 (ji9)).f1) ((rd_T39 l0 (ji9)).f2) t144 t145 _ A12.out).mono ?_
                              rintro e w19 ⟨rfl, hb⟩
                              refine ⟨_, rfl, ?_⟩
                              have n0_ := Aside0.mk (blk_below (g := gb151) (o := .cells #[.int .i64 0, .int .i64 0] 33 (0, 0)) (by (with_reducible repeat (first | refine blk_drewN ?_ _ | refine blk_drew ?_ | refine blk_alloc ?_ _)); exact BK151.out) hb)
                              have n1_ := Aside0.mk (below_step (by repeat (first | (with_reducible first | exact HB.out | apply below_alloc | apply pw_below_drewN | apply below_drew1 | refine below_set ?_ GE151.out) | exact HB.out)) hb)
                              clear BK151
                              clear HB
                              have BK151 := n0_
                              have HB := n1_
                              clear n0_ n1_
                              (try clear hb)
                              (try clear hb2)
                              (try clear hk)
                              (try clear hi)
                              refine hK.out _ _ ⟨((HB.out.cell (World.block_lt_of_cell? w _ hw143_0)).trans hw143_0), ((HB.out.cell (World.block_lt_of_cell? w _ hw143_1)).trans hw143_1), ((HB.out.cell (World.block_lt_of_cell? w _ hw143_2)).trans hw143_2), ((HB.out.cell (World.block_lt_of_cell? w _ hw146_0)).trans hw146_0), ((HB.out.cell (World.block_lt_of_cell? w _ hw146_1)).trans hw146_1), ((HB.out.cell (World.block_lt_of_cell? w _ hw146_2)).trans hw146_2)⟩ (fun hHeld => ?_)
                              clear hK K
                              refine norm_ (a' := ?_) ?_ ?_
                              rotate_left
                              · show Act.put _ (some 40) _ = _
                                simp only [Act.put, List.setIfInBounds_toArray, List.set_cons_zero, List.set_cons_succ, i64_w, i32_w]
                                rfl
                              refine one_ (i := 10) (N := some 44) #[true, true, true, true, true, true, true, true, true, true, true, false, true, false] rfl rfl (one_of HT_.out (by kernel_rfl)) (by decide) (fun K hK => ?_)
                              refine goes_ Try.func49 (by kernel_rfl) rfl #[.agg #[.int .i64 ((rd_T39 l0 0).f0), .int .i64 ((rd_T39 l0 0).f1), .bool ((rd_T39 l0 0).f2)]] (by rfl) rfl rfl (by (try simp only [List.map_toArray, List.map_cons, List.map_nil]); first | done | rfl | (simp only [List.length_drop, List.length_take]; rfl)) ?_
                              with_reducible refine (calamusref11_at.calls ((rd_T39 l0 0).f0) ((rd_T39 l0 0).f1) ((rd_T39 l0 0).f2) t147 t148 _ A14.out).mono ?_
                              rintro e w20 ⟨rfl, hb⟩
                              refine ⟨_, rfl, ?_⟩
                              have n0_ := Aside0.mk (blk_below (g := gb151) (o := .cells #[.int .i64 0, .int .i64 0] 33 (0, 0)) (by (with_reducible repeat (first | refine blk_drewN ?_ _ | refine blk_drew ?_ | refine blk_alloc ?_ _)); exact BK151.out) hb)
                              have n1_ := Aside0.mk (below_step (by repeat (first | (with_reducible first | exact HB.out | apply below_alloc | apply pw_below_drewN | apply below_drew1 | refine below_set ?_ GE151.out) | exact HB.out)) hb)
                              clear BK151
                              clear HB
                              have BK151 := n0_
                              have HB := n1_
                              clear n0_ n1_
                              (try clear hb)
                              (try clear hb2)
                              (try clear hk)
                              (try clear hi)
                              refine hK.out _ _ ⟨((HB.out.cell (World.block_lt_of_cell? w _ hw143_0)).trans hw143_0), ((HB.out.cell (World.block_lt_of_cell? w _ hw143_1)).trans hw143_1), ((HB.out.cell (World.block_lt_of_cell? w _ hw143_2)).trans hw143_2), ((HB.out.cell (World.block_lt_of_cell? w _ hw146_0)).trans hw146_0), ((HB.out.cell (World.block_lt_of_cell? w _ hw146_1)).trans hw146_1), ((HB.out.cell (World.block_lt_of_cell? w _ hw146_2)).trans hw146_2)⟩ (fun hHeld => ?_)
                              clear hK K
                              refine norm_ (a' := ?_) ?_ ?_
                              rotate_left
                              · show Act.put _ (some 44) _ = _
                                simp only [Act.put, List.setIfInBounds_toArray, List.set_cons_zero, List.set_cons_succ, i64_w, i32_w]
                                rfl
                              refine one_ (i := 11) (N := some 45) #[true, true, true, true, true, true, true, true, true, true, true, true, true, false] rfl rfl (one_of HT_.out (by kernel_rfl)) (by decide) (fun K hK => ?_)
                              refine goes_ Try.func21 (by kernel_rfl) rfl #[.agg #[.int .i64 t144, .int .i64 t145], .agg #[.int .i64 t147, .int .i64 t148]] (by rfl) rfl rfl (by (try simp only [List.map_toArray, List.map_cons, List.map_nil]); first | done | rfl | (simp only [List.length_drop, List.length_take]; rfl)) ?_
                              with_reducible refine (calamusref11_Mid.calls t144 t145 t147 t148 t149 t150 _ A15.out).mono ?_
                              rintro e w21 ⟨rfl, hb⟩
                              refine ⟨_, rfl, ?_⟩
                              have n0_ := Aside0.mk (blk_below (g := gb151) (o := .cells #[.int .i64 0, .int .i64 0] 33 (0, 0)) (by (with_reducible repeat (first | refine blk_drewN ?_ _ | refine blk_drew ?_ | refine blk_alloc ?_ _)); exact BK151.out) hb)
                              have n1_ := Aside0.mk (below_step (by repeat (first | (with_reducible first | exact HB.out | apply below_alloc | apply pw_below_drewN | apply below_drew1 | refine below_set ?_ GE151.out) | exact HB.out)) hb)
                              clear BK151
                              clear HB
                              have BK151 := n0_
                              have HB := n1_
                              clear n0_ n1_
                              (try clear hb)
                              (try clear hb2)
                              (try clear hk)
                              (try clear hi)
                              refine hK.out _ _ ⟨((HB.out.cell (World.block_lt_of_cell? w _ hw143_0)).trans hw143_0), ((HB.out.cell (World.block_lt_of_cell? w _ hw143_1)).trans hw143_1), ((HB.out.cell (World.block_lt_of_cell? w _ hw143_2)).trans hw143_2), ((HB.out.cell (World.block_lt_of_cell? w _ hw146_0)).trans hw146_0), ((HB.out.cell (World.block_lt_of_cell? w _ hw146_1)).trans hw146_1), ((HB.out.cell (World.block_lt_of_cell? w _ hw146_2)).trans hw146_2)⟩ (fun hHeld => ?_)
                              clear hK K
                              refine norm_ (a' := ?_) ?_ ?_
                              rotate_left
                              · show Act.put _ (some 45) _ = _
                                simp only [Act.put, List.setIfInBounds_toArray, List.set_cons_zero, List.set_cons_succ, i64_w, i32_w]
                                rfl
                              exact norm_ (by simp only [putAll, Act.put, List.setIfInBounds_toArray, List.set_cons_zero, List.set_cons_succ]) (hCont (gb151) _ ⟨hHeld, (by (with_reducible repeat (first | refine blk_drewN ?_ _ | refine blk_drew ?_ | refine blk_alloc ?_ _)); exact BK151.out), GW151.out, GE151.out, (by repeat (first | (with_reducible first | exact HB.out | apply below_alloc | apply pw_below_drewN | apply below_drew1 | refine below_set ?_ GE151.out) | exact HB.out))⟩)
                          rintro gb151 w22 ⟨hS_, h0_, h1_, h2_, h3_⟩
                          have n0_ : Aside0 (w22.heap[gb151]? = some (.cells #[.int .i64 0, .int .i64 0] 33 (0, 0))) := ⟨h0_⟩
                          have n1_ : Aside0 (w.heap.size ≤ gb151) := ⟨h1_⟩
                          have n2_ : Aside0 (w.heap.size ≤ gb151) := ⟨h2_⟩
                          have n3_ : Aside0 (Below w.heap.size w w22) := ⟨h3_⟩
                          clear HB
                          clear h0_ h1_ h2_ h3_
                          have BK151 := n0_
                          have GW151 := n1_
                          have GE151 := n2_
                          have HB := n3_
                          clear n0_ n1_ n2_ n3_
                          have hHeld : w22.cell? (ad143.add (((ji9)).toNat * 3)) = some (.int .i64 ((rd_T39 l0 (ji9)).f0)) ∧ w22.cell? ⟨(ad143.add (((ji9)).toNat * 3)).block, (ad143.add (((ji9)).toNat * 3)).off + 1, none⟩ = some (.int .i64 ((rd_T39 l0 (ji9)).f1)) ∧ w22.cell? ⟨(ad143.add (((ji9)).toNat * 3)).block, (ad143.add (((ji9)).toNat * 3)).off + 2, none⟩ = some (.bool ((rd_T39 l0 (ji9)).f2)) ∧ w22.cell? ad143 = some (.int .i64 ((rd_T39 l0 0).f0)) ∧ w22.cell? ⟨ad143.block, ad143.off + 1, none⟩ = some (.int .i64 ((rd_T39 l0 0).f1)) ∧ w22.cell? ⟨ad143.block, ad143.off + 2, none⟩ = some (.bool ((rd_T39 l0 0).f2)) := hS_
                          refine norm_ (a' := ?_) ?_ ?_
                          rotate_left
                          · simp only [putAll, Act.put, List.setIfInBounds_toArray, List.set_cons_zero, List.set_cons_succ]
                            rfl
                          refine one_ (i := 13) (N := none) #[true, true, true, true, true, true, true, true, true, true, true, true, true, true] rfl rfl (one_of HT_.out (by kernel_rfl)) (by decide) (fun K hK => ?_)
                          have hs23 : w22.cell? ⟨gb151, 0, none⟩ = some (.int .i64 0) := (blk_cell BK151.out 0).trans rfl
                          have hfs23 := blk_frozen BK151.out 0
                          have hs24 : w22.cell? ⟨gb151, 1, none⟩ = some (.int .i64 0) := (blk_cell BK151.out 1).trans rfl
                          have hfs24 := blk_frozen BK151.out 1
                          refine skip_ (w1 := ?_) ?_ ?_ ?_ ?_
                          rotate_left
                          · rfl
                          · rfl
                          · go_simp
                            rfl
                          clear hs23 hfs23 hs24 hfs24
                          refine hK.out _ _ ⟨((cell_far (p := ⟨gb151, _, none⟩) (by first | exact Nat.ne_of_lt (Nat.lt_of_lt_of_le (by have := World.block_lt_of_cell? _ _ hw143_0; first | rwa [add_block] at this | exact this) GW151.out) | (rw [add_block]; exact Nat.ne_of_lt (Nat.lt_of_lt_of_le (by have := World.block_lt_of_cell? _ _ hw143_0; first | rwa [add_block] at this | exact this) GW151.out)) | (show (Addr.add _ _).block ≠ _; rw [add_block]; exact Nat.ne_of_lt (Nat.lt_of_lt_of_le (by have := World.block_lt_of_cell? _ _ hw143_0; first | rwa [add_block] at this | exact this) GW151.out)) | (dsimp only; exact Nat.ne_of_lt (Nat.lt_of_lt_of_le (by have := World.block_lt_of_cell? _ _ hw143_0; first | rwa [add_block] at this | exact this) GW151.out))) _).trans (((cell_far (p := ⟨gb151, _, none⟩) (by first | exact Nat.ne_of_lt (Nat.lt_of_lt_of_le (by have := World.block_lt_of_cell? _ _ hw143_0; first | rwa [add_block] at this | exact this) GW151.out) | (rw [add_block]; exact Nat.ne_of_lt (Nat.lt_of_lt_of_le (by have := World.block_lt_of_cell? _ _ hw143_0; first | rwa [add_block] at this | exact this) GW151.out)) | (show (Addr.add _ _).block ≠ _; rw [add_block]; exact Nat.ne_of_lt (Nat.lt_of_lt_of_le (by have := World.block_lt_of_cell? _ _ hw143_0; first | rwa [add_block] at this | exact this) GW151.out)) | (dsimp only; exact Nat.ne_of_lt (Nat.lt_of_lt_of_le (by have := World.block_lt_of_cell? _ _ hw143_0; first | rwa [add_block] at this | exact this) GW151.out))) _).trans (hHeld.1)))), ((cell_far (p := ⟨gb151, _, none⟩) (by first | exact Nat.ne_of_lt (Nat.lt_of_lt_of_le (by have := World.block_lt_of_cell? _ _ hw143_1; first | rwa [add_block] at this | exact this) GW151.out) | (rw [add_block]; exact Nat.ne_of_lt (Nat.lt_of_lt_of_le (by have := World.block_lt_of_cell? _ _ hw143_1; first | rwa [add_block] at this | exact this) GW151.out)) | (show (Addr.add _ _).block ≠ _; rw [add_block]; exact Nat.ne_of_lt (Nat.lt_of_lt_of_le (by have := World.block_lt_of_cell? _ _ hw143_1; first | rwa [add_block] at this | exact this) GW151.out)) | (dsimp only; exact Nat.ne_of_lt (Nat.lt_of_lt_of_le (by have := World.block_lt_of_cell? _ _ hw143_1; first | rwa [add_block] at this | exact this) GW151.out))) _).trans (((cell_far (p := ⟨gb151, _, none⟩) (by first | exact Nat.ne_of_lt (Nat.lt_of_lt_of_le (by have := World.block_lt_of_cell? _ _ hw143_1; first | rwa [add_block] at this | exact this) GW151.out) | (rw [add_block]; exact Nat.ne_of_lt (Nat.lt_of_lt_of_le (by have := World.block_lt_of_cell? _ _ hw143_1; first | rwa [add_block] at this | exact this) GW151.out)) | (show (Addr.add _ _).block ≠ _; rw [add_block]; exact Nat.ne_of_lt (Nat.lt_of_lt_of_le (by have := World.block_lt_of_cell? _ _ hw143_1; first | rwa [add_block] at this | exact this) GW151.out)) | (dsimp only; exact Nat.ne_of_lt (Nat.lt_of_lt_of_le (by have := World.block_lt_of_cell? _ _ hw143_1; first | rwa [add_block] at this | exact this) GW151.out))) _).trans (hHeld.2.1)))), ((cell_far (p := ⟨gb151, _, none⟩) (by first | exact Nat.ne_of_lt (Nat.lt_of_lt_of_le (by have := World.block_lt_of_cell? _ _ hw143_2; first | rwa [add_block] at this | exact this) GW151.out) | (rw [add_block]; exact Nat.ne_of_lt (Nat.lt_of_lt_of_le (by have := World.block_lt_of_cell? _ _ hw143_2; first | rwa [add_block] at this | exact this) GW151.out)) | (show (Addr.add _ _).block ≠ _; rw [add_block]; exact Nat.ne_of_lt (Nat.lt_of_lt_of_le (by have := World.block_lt_of_cell? _ _ hw143_2; first | rwa [add_block] at this | exact this) GW151.out)) | (dsimp only; exact Nat.ne_of_lt (Nat.lt_of_lt_of_le (by have := World.block_lt_of_cell? _ _ hw143_2; first | rwa [add_block] at this | exact this) GW151.out))) _).trans (((cell_far (p := ⟨gb151, _, none⟩) (by first | exact Nat.ne_of_lt (Nat.lt_of_lt_of_le (by have := World.block_lt_of_cell? _ _ hw143_2; first | rwa [add_block] at this | exact this) GW151.out) | (rw [add_block]; exact Nat.ne_of_lt (Nat.lt_of_lt_of_le (by have := World.block_lt_of_cell? _ _ hw143_2; first | rwa [add_block] at this | exact this) GW151.out)) | (show (Addr.add _ _).block ≠ _; rw [add_block]; exact Nat.ne_of_lt (Nat.lt_of_lt_of_le (by have := World.block_lt_of_cell? _ _ hw143_2; first | rwa [add_block] at this | exact this) GW151.out)) | (dsimp only; exact Nat.ne_of_lt (Nat.lt_of_lt_of_le (by have := World.block_lt_of_cell? _ _ hw143_2; first | rwa [add_block] at this | exact this) GW151.out))) _).trans (hHeld.2.2.1)))), ((cell_far (p := ⟨gb151, _, none⟩) (by first | exact Nat.ne_of_lt (Nat.lt_of_lt_of_le (by have := World.block_lt_of_cell? _ _ hw146_0; first | rwa [add_block] at this | exact this) GW151.out) | (rw [add_block]; exact Nat.ne_of_lt (Nat.lt_of_lt_of_le (by have := World.block_lt_of_cell? _ _ hw146_0; first | rwa [add_block] at this | exact this) GW151.out)) | (show (Addr.add _ _).block ≠ _; rw [add_block]; exact Nat.ne_of_lt (Nat.lt_of_lt_of_le (by have := World.block_lt_of_cell? _ _ hw146_0; first | rwa [add_block] at this | exact this) GW151.out)) | (dsimp only; exact Nat.ne_of_lt (Nat.lt_of_lt_of_le (by have := World.block_lt_of_cell? _ _ hw146_0; first | rwa [add_block] at this | exact this) GW151.out))) _).trans (((cell_far (p := ⟨gb151, _, none⟩) (by first | exact Nat.ne_of_lt (Nat.lt_of_lt_of_le (by have := World.block_lt_of_cell? _ _ hw146_0; first | rwa [add_block] at this | exact this) GW151.out) | (rw [add_block]; exact Nat.ne_of_lt (Nat.lt_of_lt_of_le (by have := World.block_lt_of_cell? _ _ hw146_0; first | rwa [add_block] at this | exact this) GW151.out)) | (show (Addr.add _ _).block ≠ _; rw [add_block]; exact Nat.ne_of_lt (Nat.lt_of_lt_of_le (by have := World.block_lt_of_cell? _ _ hw146_0; first | rwa [add_block] at this | exact this) GW151.out)) | (dsimp only; exact Nat.ne_of_lt (Nat.lt_of_lt_of_le (by have := World.block_lt_of_cell? _ _ hw146_0; first | rwa [add_block] at this | exact this) GW151.out))) _).trans (hHeld.2.2.2.1)))), ((cell_far (p := ⟨gb151, _, none⟩) (by first | exact Nat.ne_of_lt (Nat.lt_of_lt_of_le (by have := World.block_lt_of_cell? _ _ hw146_1; first | rwa [add_block] at this | exact this) GW151.out) | (rw [add_block]; exact Nat.ne_of_lt (Nat.lt_of_lt_of_le (by have := World.block_lt_of_cell? _ _ hw146_1; first | rwa [add_block] at this | exact this) GW151.out)) | (show (Addr.add _ _).block ≠ _; rw [add_block]; exact Nat.ne_of_lt (Nat.lt_of_lt_of_le (by have := World.block_lt_of_cell? _ _ hw146_1; first | rwa [add_block] at this | exact this) GW151.out)) | (dsimp only; exact Nat.ne_of_lt (Nat.lt_of_lt_of_le (by have := World.block_lt_of_cell? _ _ hw146_1; first | rwa [add_block] at this | exact this) GW151.out))) _).trans (((cell_far (p := ⟨gb151, _, none⟩) (by first | exact Nat.ne_of_lt (Nat.lt_of_lt_of_le (by have := World.block_lt_of_cell? _ _ hw146_1; first | rwa [add_block] at this | exact this) GW151.out) | (rw [add_block]; exact Nat.ne_of_lt (Nat.lt_of_lt_of_le (by have := World.block_lt_of_cell? _ _ hw146_1; first | rwa [add_block] at this | exact this) GW151.out)) | (show (Addr.add _ _).block ≠ _; rw [add_block]; exact Nat.ne_of_lt (Nat.lt_of_lt_of_le (by have := World.block_lt_of_cell? _ _ hw146_1; first | rwa [add_block] at this | exact this) GW151.out)) | (dsimp only; exact Nat.ne_of_lt (Nat.lt_of_lt_of_le (by have := World.block_lt_of_cell? _ _ hw146_1; first | rwa [add_block] at this | exact this) GW151.out))) _).trans (hHeld.2.2.2.2.1)))), ((cell_far (p := ⟨gb151, _, none⟩) (by first | exact Nat.ne_of_lt (Nat.lt_of_lt_of_le (by have := World.block_lt_of_cell? _ _ hw146_2; first | rwa [add_block] at this | exact this) GW151.out) | (rw [add_block]; exact Nat.ne_of_lt (Nat.lt_of_lt_of_le (by have := World.block_lt_of_cell? _ _ hw146_2; first | rwa [add_block] at this | exact this) GW151.out)) | (show (Addr.add _ _).block ≠ _; rw [add_block]; exact Nat.ne_of_lt (Nat.lt_of_lt_of_le (by have := World.block_lt_of_cell? _ _ hw146_2; first | rwa [add_block] at this | exact this) GW151.out)) | (dsimp only; exact Nat.ne_of_lt (Nat.lt_of_lt_of_le (by have := World.block_lt_of_cell? _ _ hw146_2; first | rwa [add_block] at this | exact this) GW151.out))) _).trans (((cell_far (p := ⟨gb151, _, none⟩) (by first | exact Nat.ne_of_lt (Nat.lt_of_lt_of_le (by have := World.block_lt_of_cell? _ _ hw146_2; first | rwa [add_block] at this | exact this) GW151.out) | (rw [add_block]; exact Nat.ne_of_lt (Nat.lt_of_lt_of_le (by have := World.block_lt_of_cell? _ _ hw146_2; first | rwa [add_block] at this | exact this) GW151.out)) | (show (Addr.add _ _).block ≠ _; rw [add_block]; exact Nat.ne_of_lt (Nat.lt_of_lt_of_le (by have := World.block_lt_of_cell? _ _ hw146_2; first | rwa [add_block] at this | exact this) GW151.out)) | (dsimp only; exact Nat.ne_of_lt (Nat.lt_of_lt_of_le (by have := World.block_lt_of_cell? _ _ hw146_2; first | rwa [add_block] at this | exact this) GW151.out))) _).trans (hHeld.2.2.2.2.2))))⟩ (fun hHeld => ?_)
                          clear hK K
                          refine done_ (done_of HT_.out (by kernel_rfl)) ?_
                          have hcz25_0 : w22.cell? ⟨gb151, 0, none⟩ = some (.int .i64 0) := (blk_cell BK151.out 0).trans rfl
                          have hcz25_1 : w22.cell? ⟨gb151, 1, none⟩ = some (.int .i64 0) := (blk_cell BK151.out 1).trans rfl
                          have hfz25_0 := blk_frozen BK151.out 0
                          have hfz25_1 := blk_frozen BK151.out 1
                          try go_wp2_with (first | ((with_reducible refine gate_builtin (b := .append) (xs := #[.tmp 46, .tmp 52]) rfl ?_); (try (refine gate_guard (by rfl) ?_; dsimp only)); at_builtin; refine Kd.R_append k39 (w0 := w) w.heap.size rfl (.tmp 46) (.tmp 52) 22 39 (.agg #[(.int .i64 0), (.int .i64 0), (.bool false)]) 24 rfl Try.underlying22 info39 rfl (by decide) (by omega) (.slice none 0 0) ([] : List (S39)) (⟨t149, t150, true⟩ : S39) [.int .i64 t149, .int .i64 t150, .bool true] (fun _ => True) (fun _ => False) rfl (by first | (go_simp; done) | (go_simp; rfl)) ?aP (fun _ hk => hk.elim) ?aF ?aO ?aB ?aS ?aL ?_; (case aP => exact k39_mkM _ _ _ (⟨t149, t150, true⟩ : S39)); (case aB => exact (by repeat (first | (with_reducible first | exact HB.out | apply below_alloc | apply pw_below_drewN | apply below_drew1 | refine below_set ?_ GE151.out) | exact HB.out))); (case aF => exact (fun _ _ => trivial)); (case aO => exact ((Kd.R_nil _ _ _ _ (fun _ => True)))); (case aS => exact (below_size (by repeat (first | (with_reducible first | exact HB.out | apply below_alloc | apply pw_below_drewN | apply below_drew1 | refine below_set ?_ GE151.out) | exact HB.out)))); (case aL => have := LMc16.out; omega); intro v153 w26 ho hb hg hat; rw [← Ny152.out] at ho; have n0_ := Aside0.mk (blk_grown (g := gb151) (o := .cells #[.int .i64 t149, .int .i64 t150] 33 (0, 0)) (by (with_reducible repeat (first | refine blk_drewN ?_ _ | refine blk_drew ?_ | refine blk_alloc ?_ _)); refine blk_put (cs := #[.int .i64 t149, .int .i64 0]) ?_ 1 _ rfl; (with_reducible repeat (first | refine blk_drewN ?_ _ | refine blk_drew ?_ | refine blk_alloc ?_ _)); refine blk_put (cs := #[.int .i64 0, .int .i64 0]) ?_ 0 _ rfl; (with_reducible repeat (first | refine blk_drewN ?_ _ | refine blk_drew ?_ | refine blk_alloc ?_ _)); exact BK151.out) hg (by simp [Value.ownBlock])); have n1_ := Aside0.mk (hb); have n2_ := Aside0.mk (ho); clear BK151; clear HB; have BK151 := n0_; have HB := n1_; have HO154 := n2_; clear n0_ n1_ n2_; clear ho hb hg hat))
                          go_meet
                          case rel => exact ⟨_, (0), (y152), (by first | rfl | (simp; done) | (simp [*]; done)), H', ⟨by have := HK1.out; have := HJ2.out; first | omega | exact Nat.le_refl _⟩, ⟨by (with_reducible repeat (first | apply Kd.R_alloc | apply Kd.R_drewN | apply Kd.R_drew)); exact HO154.out⟩, ⟨by repeat (first | (with_reducible first | exact HB.out | apply below_alloc | apply pw_below_drewN | apply below_drew1 | refine below_set ?_ GE151.out) | exact HB.out)⟩⟩
                        · rw [if_neg c16] at H
                          exact absurd H (by simp)
                      · rw [if_neg c13] at H
                        exact absurd H (by simp)
                    · rw [if_neg c11] at H
                      exact absurd H (by simp)
                  · rw [if_neg c10] at H
                    exact absurd H (by simp)
                · rw [if_neg c8] at H
                  have c8b0 : (x3_1 == (l0.length : Int)) = false := beq_eq_false_iff_ne.mpr c8
                  have c8b1 : (x3_1 != (l0.length : Int)) = true := bne_iff_ne.mpr c8
                  (first | rw [c8b0] | (simp only [i64_w, i32_w]; rw [c8b0]) | skip)
                  have H' := Aside0.mk H
                  clear H
                  go_wp2
                  go_meet
                  case rel => exact ⟨_, (x3_1), (([] : List (S39))), (by first | rfl | (simp; done) | (simp [*]; done)), H', ⟨by have := HK1.out; have := HJ2.out; first | omega | exact Nat.le_refl _⟩, ⟨by first | exact Kd.R_nil _ _ _ _ _ | exact Kd.N_nil _ _ _ _ _ | exact Kd.V_nil _ _ _ _ _ | exact Kd.Q_nil _ _ _ _ _ | exact Kd.S_nil _ _ _ _ _⟩, ⟨by repeat (first | (with_reducible first | exact HB.out | apply below_alloc | apply pw_below_drewN | apply below_drew1) | exact HB.out)⟩⟩
              case rest =>
                clear HC7
                try clear c1
                try clear p1
                try clear q1
                try clear hx1
                try clear qi1
                try clear c2
                try clear c2b0
                try clear c2b1
                try clear c2b2
                try clear p2
                try clear c4
                try clear c4b0
                try clear c5
                try clear c5b0
                try clear c6
                try clear p6
                try clear c8
                try clear c8b0
                try clear c8b1
                try clear c10
                try clear c10b0
                try clear c11
                try clear c11b0
                try clear c13
                try clear c13b0
                try clear c13b1
                try clear p14
                try clear q14
                try clear hx14
                try clear qi14
                try clear c16
                try clear c21
                try clear hcz25_0
                try clear hcz25_1
                try clear hfz25_0
                try clear hfz25_1
                try clear hx142_0
                try clear hx142_1
                try clear hx142_2
                try clear hx143_0
                try clear hx143_1
                try clear hx143_2
                try clear hx146_0
                try clear hx146_1
                try clear hx146_2
                try clear p1
                try clear p142
                try clear p143
                try clear p146
                try clear p2
                try clear q1
                try clear q142
                try clear q143
                try clear q146
                obtain ⟨kq, x3_6, x4_6, rfl, HA, HJ6, HO_4, HB⟩ := hcut
                cases kq with
                | zero => exact absurd HA.out (by simp [calamusref11_Segs.j2])
                | succ kj6 =>
                  have H := HA.out
                  clear HA
                  simp only [calamusref11_Segs.j2] at H
                  have H' := Aside0.mk H
                  clear H
                  go_wp2
                  go_loopg [4, 6] kj6 (fun kq v4 v6 w' => ∃ (x4_4 : List (S39)) (x6_4 : Int), v6 = .int .i64 x6_4 ∧ Aside0 (calamusref11_Segs.l1 kq l0 x3_6 x4_4 x6_4 = some r) ∧ Aside0 (kq ≤ kj6) ∧ Aside0 (Kd.R k39 39 w' w.heap.size (fun _ => True) v4 x4_4) ∧ Aside0 (Below w.heap.size w w'))
                  case atStart => exact ⟨(x4_6), (0), (by first | rfl | (simp; done) | (simp [*]; done)), H', ⟨Nat.le_refl _⟩, ⟨by (with_reducible repeat (first | apply Kd.R_alloc | apply Kd.R_drewN | apply Kd.R_drew)); exact HO_4.out⟩, ⟨by repeat (first | (with_reducible first | exact HB.out | apply below_alloc | apply pw_below_drewN | apply below_drew1) | exact HB.out)⟩⟩
                  case round =>
                    clear H'
                    try clear c1
                    try clear p1
                    try clear q1
                    try clear hx1
                    try clear qi1
                    try clear c2
                    try clear c2b0
                    try clear c2b1
                    try clear c2b2
                    try clear p2
                    try clear c4
                    try clear c4b0
                    try clear c5
                    try clear c5b0
                    try clear c6
                    try clear p6
                    try clear c8
                    try clear c8b0
                    try clear c8b1
                    try clear c10
                    try clear c10b0
                    try clear c11
                    try clear c11b0
                    try clear c13
                    try clear c13b0
                    try clear c13b1
                    try clear p14
                    try clear q14
                    try clear hx14
                    try clear qi14
                    try clear c16
                    try clear c21
                    try clear hcz25_0
                    try clear hcz25_1
                    try clear hfz25_0
                    try clear hfz25_1
                    try clear hx142_0
                    try clear hx142_1
                    try clear hx142_2
                    try clear hx143_0
                    try clear hx143_1
                    try clear hx143_2
                    try clear hx146_0
                    try clear hx146_1
                    try clear hx146_2
                    try clear p1
                    try clear p14
                    try clear p142
                    try clear p143
                    try clear p146
                    try clear p2
                    try clear p6
                    try clear q1
                    try clear q14
                    try clear q142
                    try clear q143
                    try clear q146
                    obtain ⟨x4_4, x6_4, rfl, HA, HK4, HO_4, HB⟩ := hrel
                    cases gk with
                    | zero => exact absurd HA.out (by simp [calamusref11_Segs.l1])
                    | succ k4 =>
                      have H := HA.out
                      clear HA
                      simp only [calamusref11_Segs.l1] at H
                      by_cases c27 : x6_4 < (l0.length : Int)
                      · rw [if_pos c27] at H
                        have c27b0 : decide (x6_4 < (l0.length : Int)) = true := decide_eq_true c27
                        clear c27
                        by_cases c28 : (l0.length : Int) = 0
                        · rw [if_pos c28] at H
                          exact absurd H (by simp)
                        · rw [if_neg c28] at H
                          have c28b0 : ((l0.length : Int) == 0) = false := beq_eq_false_iff_ne.mpr c28
                          have c28b1 : ((l0.length : Int) != 0) = true := bne_iff_ne.mpr c28
                          have c28b2 : ¬ (l0 = []) := fun h_ => c28 (by rw [h_]; rfl)
                          obtain ⟨ji29, hji29⟩ : ∃ j_ : Int, (Int.tmod (wrap64 (x3_6 + x6_4)) (l0.length : Int)) = j_ := ⟨_, rfl⟩
                          replace H : (if 0 ≤ (ji29) then (if (ji29) < (l0.length : Int) then (if (x4_4.length : Int) > 0 then (if ((rd_T39 l0 (ji29)).f2 = true) then (calamusref11_Segs.j4 k4 l0 x3_6 x4_4 x6_4 false ((rd_T39 l0 (ji29)).f0) ((rd_T39 l0 (ji29)).f1) ((rd_T39 l0 (ji29)).f2)) else (if 0 ≤ (wrap64 ((x4_4.length : Int) - 1)) then (if (wrap64 ((x4_4.length : Int) - 1)) < (x4_4.length : Int) then (calamusref11_Segs.j4 k4 l0 x3_6 x4_4 x6_4 (!((rd_T39 x4_4 (wrap64 ((x4_4.length : Int) - 1))).f2)) ((rd_T39 l0 (ji29)).f0) ((rd_T39 l0 (ji29)).f1) ((rd_T39 l0 (ji29)).f2)) else (none)) else (none))) else (calamusref11_Segs.j4 k4 l0 x3_6 x4_4 x6_4 false ((rd_T39 l0 (ji29)).f0) ((rd_T39 l0 (ji29)).f1) ((rd_T39 l0 (ji29)).f2))) else (none)) else (none)) = some r := by first | (rw [hji29] at H; exact H) | (simp only [hji29] at H ⊢; exact H)
                          by_cases c30 : 0 ≤ (ji29)
                          · rw [if_pos c30] at H
                            have c30b0 : decide (0 ≤ (ji29)) = true := decide_eq_true c30
                            clear c30
                            by_cases c31 : (ji29) < (l0.length : Int)
                            · rw [if_pos c31] at H
                              have c31b0 : decide ((ji29) < (l0.length : Int)) = true := decide_eq_true c31
                              clear c31
                              have HC32 := Aside0.mk H
                              clear H
                              have p155 : 0 ≤ ((ji29) : Int) := of_decide_eq_true (by first | (with_reducible assumption) | assumption)
                              have q155 : (ji29) < (l0.length : Int) := of_decide_eq_true (by first | (with_reducible assumption) | assumption)
                              obtain ⟨ad155, e155, hx155_0, hx155_1, hx155_2⟩ := at_T39 HR0.out (ji29) p155 q155
                              cases e155
                              replace hx155_0 := (HB.out.cell (World.block_lt_of_cell? w _ hx155_0)).trans hx155_0
                              replace hx155_1 := (HB.out.cell (World.block_lt_of_cell? w _ hx155_1)).trans hx155_1
                              replace hx155_2 := (HB.out.cell (World.block_lt_of_cell? w _ hx155_2)).trans hx155_2
                              replace p155 := eq_true p155
                              replace q155 := eq_true q155
                              go_upto_region 15 with (first | ((with_reducible refine gate_dst (N := 7) rfl ?_); (try (refine gate_guard (by rfl) ?_; dsimp only)); refine box_event ?hg (N := 7) ?hd (cs := #[.int .i64 0, .int .i64 0, .bool false]) (t := 39) ?hr ?_; (case hd => rfl); (case hg => rfl); (case hr => first | (go_simp; done) | (go_simp; rfl)); intro gb156 hg w33 hbox hb; have n0_ := Aside0.mk (Kd.R_below (Kd.R_elderB (by (with_reducible repeat (first | apply Kd.R_alloc | apply Kd.R_drewN | apply Kd.R_drew)); exact HO_4.out) gb156 (Nat.le_of_eq hg.symm)) hb); have n1_ := Aside0.mk (below_step (by repeat (first | (with_reducible first | exact HB.out | apply below_alloc | apply pw_below_drewN | apply below_drew1) | exact HB.out)) hb); have n2_ := Aside0.mk (hbox); have n3_ := Aside0.mk ((by rw [hg]; exact (below_size (by repeat (first | (with_reducible first | exact HB.out | apply below_alloc | apply pw_below_drewN | apply below_drew1) | exact HB.out))) : w.heap.size ≤ gb156)); have n4_ := Aside0.mk ((by rw [hg]; exact (below_size (by repeat (first | (with_reducible first | exact HB.out | apply below_alloc | apply pw_below_drewN | apply below_drew1) | exact HB.out))) : w.heap.size ≤ gb156)); clear HO_4; clear HB; have HO_4 := n0_; have HB := n1_; have BK156 := n2_; have GW156 := n3_; have GE156 := n4_; clear n0_ n1_ n2_ n3_ n4_; clear hb hbox hg; have hcz34_0 : w33.cell? ⟨gb156, 0, none⟩ = some (.int .i64 0) := (blk_cell BK156.out 0).trans rfl; have hcz34_1 : w33.cell? ⟨gb156, 1, none⟩ = some (.int .i64 0) := (blk_cell BK156.out 1).trans rfl; have hcz34_2 : w33.cell? ⟨gb156, 2, none⟩ = some (.bool false) := (blk_cell BK156.out 2).trans rfl; have hfz34_0 := blk_frozen BK156.out 0; have hfz34_1 := blk_frozen BK156.out 1; have hfz34_2 := blk_frozen BK156.out 2) | ((with_reducible refine gate_store (t := 39) (p := 7) rfl ?_); refine store_event (t := 39) (p := 7) (v := ?vo_w35) (w1 := (((w33.setCell ⟨gb156, 0, none⟩ (.int .i64 ((rd_T39 l0 (ji29)).f0))).setCell ⟨gb156, 1, none⟩ (.int .i64 ((rd_T39 l0 (ji29)).f1))).setCell ⟨gb156, 2, none⟩ (.bool ((rd_T39 l0 (ji29)).f2)))) ?hg ?ho ?hn ?hr ?_; (case ho => rfl); (case hg => rfl); (case hn => rfl); (case hr => first | (go_simp; done) | (go_simp; rfl)); intro w35 hw; have n0_ : Aside0 (Kd.R k39 39 w35 w.heap.size (fun k_ => k_ ≠ gb156) u4 x4_4) := ⟨(by rw [hw]; exact (by (with_reducible repeat (first | apply Kd.R_alloc | apply Kd.R_drewN | apply Kd.R_drew)); exact Kd.R_mono (Kd.R_far (p := ⟨gb156, 2, none⟩) (Kd.R_far (p := ⟨gb156, 1, none⟩) (Kd.R_far (p := ⟨gb156, 0, none⟩) (Kd.R_mono HO_4.out (fun k_ hk => (⟨hk, hk.2⟩ : _ ∧ k_ ≠ gb156))) (fun _ hk => hk.2) (.int .i64 ((rd_T39 l0 (ji29)).f0))) (fun _ hk => hk.2) (.int .i64 ((rd_T39 l0 (ji29)).f1))) (fun _ hk => hk.2) (.bool ((rd_T39 l0 (ji29)).f2))) (fun _ hk => hk.1.2)))⟩; have n1_ : Aside0 (w35.heap[gb156]? = some (.cells #[.int .i64 ((rd_T39 l0 (ji29)).f0), .int .i64 ((rd_T39 l0 (ji29)).f1), .bool ((rd_T39 l0 (ji29)).f2)] 39 (0, 0))) := ⟨(by rw [hw]; exact (by (with_reducible repeat (first | refine blk_drewN ?_ _ | refine blk_drew ?_ | refine blk_alloc ?_ _)); refine blk_put (cs := #[.int .i64 ((rd_T39 l0 (ji29)).f0), .int .i64 ((rd_T39 l0 (ji29)).f1), .bool false]) ?_ 2 _ rfl; (with_reducible repeat (first | refine blk_drewN ?_ _ | refine blk_drew ?_ | refine blk_alloc ?_ _)); refine blk_put (cs := #[.int .i64 ((rd_T39 l0 (ji29)).f0), .int .i64 0, .bool false]) ?_ 1 _ rfl; (with_reducible repeat (first | refine blk_drewN ?_ _ | refine blk_drew ?_ | refine blk_alloc ?_ _)); refine blk_put (cs := #[.int .i64 0, .int .i64 0, .bool false]) ?_ 0 _ rfl; (with_reducible repeat (first | refine blk_drewN ?_ _ | refine blk_drew ?_ | refine blk_alloc ?_ _)); exact BK156.out))⟩; have n2_ : Aside0 (Below w.heap.size w w35) := ⟨(by rw [hw]; exact (by repeat (first | (with_reducible first | exact HB.out | apply below_alloc | apply pw_below_drewN | apply below_drew1 | refine below_set ?_ GE156.out) | exact HB.out)))⟩; clear hw; clear HO_4; clear BK156; clear HB; have HO_4 := n0_; have BK156 := n1_; have HB := n2_; clear n0_ n1_ n2_))
                              (try simp only [Act.put, List.setIfInBounds_toArray, List.set_cons_zero, List.set_cons_succ])
                              go_cut [86] (fun v86 wc => ∃ (kq : Nat) (x86_31 : Bool), v86 = .bool x86_31 ∧ Aside0 (calamusref11_Segs.j4 kq l0 x3_6 x4_4 x6_4 x86_31 ((rd_T39 l0 (ji29)).f0) ((rd_T39 l0 (ji29)).f1) ((rd_T39 l0 (ji29)).f2) = some r) ∧ Aside0 (kq ≤ k4) ∧ Aside0 (Kd.R k39 39 wc w.heap.size (fun k_ => k_ ≠ gb156) u4 x4_4) ∧ Aside0 (wc.heap[gb156]? = some (.cells #[.int .i64 ((rd_T39 l0 (ji29)).f0), .int .i64 ((rd_T39 l0 (ji29)).f1), .bool ((rd_T39 l0 (ji29)).f2)] 39 (0, 0))) ∧ Aside0 (Below w.heap.size w wc))
                              case first =>
                                have H := HC32.out
                                clear HC32
                                by_cases c36 : (x4_4.length : Int) > 0
                                · rw [if_pos c36] at H
                                  have c36b0 : decide (0 < (x4_4.length : Int)) = true := decide_eq_true c36
                                  have c36b1 : decide (0 < x4_4.length) = true := decide_eq_true (by omega)
                                  clear c36
                                  (first | rw [c36b0] | (simp only [i64_w, i32_w]; rw [c36b0]) | skip)
                                  obtain ⟨bq37, hbq37⟩ : ∃ b_ : Bool, b_ = ((rd_T39 l0 (ji29)).f2) := ⟨_, rfl⟩
                                  replace H : (if (bq37 = true) then (calamusref11_Segs.j4 k4 l0 x3_6 x4_4 x6_4 false ((rd_T39 l0 (ji29)).f0) ((rd_T39 l0 (ji29)).f1) bq37) else (if 0 ≤ (wrap64 ((x4_4.length : Int) - 1)) then (if (wrap64 ((x4_4.length : Int) - 1)) < (x4_4.length : Int) then (calamusref11_Segs.j4 k4 l0 x3_6 x4_4 x6_4 (!((rd_T39 x4_4 (wrap64 ((x4_4.length : Int) - 1))).f2)) ((rd_T39 l0 (ji29)).f0) ((rd_T39 l0 (ji29)).f1) bq37) else (none)) else (none))) = some r := by rw [← hbq37] at H; exact H
                                  have Nbq37 := Aside0.mk hbq37
                                  clear hbq37
                                  (try rw [← Nbq37.out] at hx155_2)
                                  (try (replace BK156 := Aside0.mk (by have h_ := BK156.out; rw [← Nbq37.out] at h_; exact h_)))
                                  by_cases c38 : (bq37 = true)
                                  · subst c38
                                    have H1 : (calamusref11_Segs.j4 k4 l0 x3_6 x4_4 x6_4 false ((rd_T39 l0 (ji29)).f0) ((rd_T39 l0 (ji29)).f1) true) = some r := by rw [if_pos rfl] at H; exact H
                                    clear H
                                    have H := H1
                                    clear H1
                                    have H' := Aside0.mk H
                                    clear H
                                    obtain ⟨Ao39, co39, eo39⟩ := Kd.R_slice HO_4.out
                                    subst eo39
                                    have hcz40_0 : w35.cell? ⟨gb156, 0, none⟩ = some (.int .i64 ((rd_T39 l0 (ji29)).f0)) := (blk_cell BK156.out 0).trans (by first | rfl | ((try rw [← Nbq37.out]); rfl))
                                    have hcz40_1 : w35.cell? ⟨gb156, 1, none⟩ = some (.int .i64 ((rd_T39 l0 (ji29)).f1)) := (blk_cell BK156.out 1).trans (by first | rfl | ((try rw [← Nbq37.out]); rfl))
                                    have hcz40_2 : w35.cell? ⟨gb156, 2, none⟩ = some (.bool true) := (blk_cell BK156.out 2).trans (by first | rfl | ((try rw [← Nbq37.out]); rfl))
                                    have hfz40_0 := blk_frozen BK156.out 0
                                    have hfz40_1 := blk_frozen BK156.out 1
                                    have hfz40_2 := blk_frozen BK156.out 2
                                    go_wp2
                                    go_meet
                                    case rel => (try rw [← Nbq37.out]); exact ⟨_, (false), (by first | rfl | (simp; done) | (simp [*]; done)), H', ⟨by have := HK1.out; have := HJ2.out; have := HJ6.out; have := HK4.out; first | omega | exact Nat.le_refl _⟩, ⟨by (with_reducible repeat (first | apply Kd.R_alloc | apply Kd.R_drewN | apply Kd.R_drew)); exact HO_4.out⟩, ⟨by (with_reducible repeat (first | refine blk_drewN ?_ _ | refine blk_drew ?_ | refine blk_alloc ?_ _)); exact BK156.out⟩, ⟨by repeat (first | (with_reducible first | exact HB.out | apply below_alloc | apply pw_below_drewN | apply below_drew1 | refine below_set ?_ GE156.out) | exact HB.out)⟩⟩
                                  · replace c38 := Bool.eq_false_iff.mpr c38
                                    subst c38
                                    have H1 : (if 0 ≤ (wrap64 ((x4_4.length : Int) - 1)) then (if (wrap64 ((x4_4.length : Int) - 1)) < (x4_4.length : Int) then (calamusref11_Segs.j4 k4 l0 x3_6 x4_4 x6_4 (!((rd_T39 x4_4 (wrap64 ((x4_4.length : Int) - 1))).f2)) ((rd_T39 l0 (ji29)).f0) ((rd_T39 l0 (ji29)).f1) false) else (none)) else (none)) = some r := by rw [if_neg (show ¬ (false = true) by decide)] at H; exact H
                                    clear H
                                    have H := H1
                                    clear H1
                                    obtain ⟨ji41, hji41⟩ : ∃ j_ : Int, (wrap64 ((x4_4.length : Int) - 1)) = j_ := ⟨_, rfl⟩
                                    replace H : (if 0 ≤ (ji41) then (if (ji41) < (x4_4.length : Int) then (calamusref11_Segs.j4 k4 l0 x3_6 x4_4 x6_4 (!((rd_T39 x4_4 (ji41)).f2)) ((rd_T39 l0 (ji29)).f0) ((rd_T39 l0 (ji29)).f1) false) else (none)) else (none)) = some r := by first | (rw [hji41] at H; exact H) | (simp only [hji41] at H ⊢; exact H)
                                    have hji41w : (IntKind.i64.wrap ((x4_4.length : Int) - 1)) = ji41 := (i64_w _).trans hji41
                                    by_cases c42 : 0 ≤ (ji41)
                                    · rw [if_pos c42] at H
                                      have c42b0 : decide (0 ≤ (ji41)) = true := decide_eq_true c42
                                      clear c42
                                      by_cases c43 : (ji41) < (x4_4.length : Int)
                                      · rw [if_pos c43] at H
                                        have c43b0 : decide ((ji41) < (x4_4.length : Int)) = true := decide_eq_true c43
                                        clear c43
                                        have H' := Aside0.mk H
                                        clear H
                                        obtain ⟨Ao44, co44, eo44⟩ := Kd.R_slice HO_4.out
                                        subst eo44
                                        have hcz45_0 : w35.cell? ⟨gb156, 0, none⟩ = some (.int .i64 ((rd_T39 l0 (ji29)).f0)) := (blk_cell BK156.out 0).trans (by first | rfl | ((try rw [← Nbq37.out]); rfl))
                                        have hcz45_1 : w35.cell? ⟨gb156, 1, none⟩ = some (.int .i64 ((rd_T39 l0 (ji29)).f1)) := (blk_cell BK156.out 1).trans (by first | rfl | ((try rw [← Nbq37.out]); rfl))
                                        have hcz45_2 : w35.cell? ⟨gb156, 2, none⟩ = some (.bool false) := (blk_cell BK156.out 2).trans (by first | rfl | ((try rw [← Nbq37.out]); rfl))
                                        have hfz45_0 := blk_frozen BK156.out 0
                                        have hfz45_1 := blk_frozen BK156.out 1
                                        have hfz45_2 := blk_frozen BK156.out 2
                                        have p157 : 0 ≤ ((ji41) : Int) := of_decide_eq_true (by first | (with_reducible assumption) | assumption)
                                        have q157 : (ji41) < (x4_4.length : Int) := of_decide_eq_true (by first | (with_reducible assumption) | assumption)
                                        obtain ⟨ad157, e157, hx157_0, hx157_1, hx157_2⟩ := at_T39 (Kd.R_reads' HO_4.out).2.2 (ji41) p157 q157
                                        (try rw [← Nbq37.out] at hx157_2)
                                        cases e157
                                        replace p157 := eq_true p157
                                        replace q157 := eq_true q157
                                        go_wp2
                                        go_meet
                                        case rel => (try rw [← Nbq37.out]); exact ⟨_, (!((rd_T39 x4_4 (ji41)).f2)), (by first | rfl | (simp; done) | (simp only [← hji41] <;> (first | rfl | simp)) | (simp [*]; done)), H', ⟨by have := HK1.out; have := HJ2.out; have := HJ6.out; have := HK4.out; first | omega | exact Nat.le_refl _⟩, ⟨by (with_reducible repeat (first | apply Kd.R_alloc | apply Kd.R_drewN | apply Kd.R_drew)); exact HO_4.out⟩, ⟨by (with_reducible repeat (first | refine blk_drewN ?_ _ | refine blk_drew ?_ | refine blk_alloc ?_ _)); exact BK156.out⟩, ⟨by repeat (first | (with_reducible first | exact HB.out | apply below_alloc | apply pw_below_drewN | apply below_drew1 | refine below_set ?_ GE156.out) | exact HB.out)⟩⟩
                                      · rw [if_neg c43] at H
                                        exact absurd H (by simp)
                                    · rw [if_neg c42] at H
                                      exact absurd H (by simp)
                                · rw [if_neg c36] at H
                                  have c36b0 : decide (0 < (x4_4.length : Int)) = false := decide_eq_false c36
                                  have c36b1 : decide (0 < x4_4.length) = false := decide_eq_false (by omega)
                                  clear c36
                                  (first | rw [c36b0] | (simp only [i64_w, i32_w]; rw [c36b0]) | skip)
                                  have H' := Aside0.mk H
                                  clear H
                                  obtain ⟨Ao46, co46, eo46⟩ := Kd.R_slice HO_4.out
                                  subst eo46
                                  go_wp2
                                  go_meet
                                  case rel => exact ⟨_, (false), (by first | rfl | (simp; done) | (simp [*]; done)), H', ⟨by have := HK1.out; have := HJ2.out; have := HJ6.out; have := HK4.out; first | omega | exact Nat.le_refl _⟩, ⟨by (with_reducible repeat (first | apply Kd.R_alloc | apply Kd.R_drewN | apply Kd.R_drew)); exact HO_4.out⟩, ⟨by (with_reducible repeat (first | refine blk_drewN ?_ _ | refine blk_drew ?_ | refine blk_alloc ?_ _)); exact BK156.out⟩, ⟨by repeat (first | (with_reducible first | exact HB.out | apply below_alloc | apply pw_below_drewN | apply below_drew1 | refine below_set ?_ GE156.out) | exact HB.out)⟩⟩
                              case rest =>
                                clear HC32
                                try clear c1
                                try clear p1
                                try clear q1
                                try clear hx1
                                try clear qi1
                                try clear c2
                                try clear c2b0
                                try clear c2b1
                                try clear c2b2
                                try clear p2
                                try clear c3
                                try clear q3
                                try clear c4
                                try clear c4b0
                                try clear c5
                                try clear c5b0
                                try clear c6
                                try clear p6
                                try clear c8
                                try clear c8b0
                                try clear c8b1
                                try clear c10
                                try clear c10b0
                                try clear c11
                                try clear c11b0
                                try clear c13
                                try clear c13b0
                                try clear c13b1
                                try clear p14
                                try clear q14
                                try clear hx14
                                try clear qi14
                                try clear p15
                                try clear q15
                                try clear hx15
                                try clear c16
                                try clear c21
                                try clear c27
                                try clear c27b0
                                try clear c28
                                try clear c28b0
                                try clear c28b1
                                try clear c28b2
                                try clear c30
                                try clear c30b0
                                try clear c31
                                try clear c31b0
                                try clear c36
                                try clear c36b0
                                try clear c36b1
                                try clear q37
                                try clear c38
                                try clear c42
                                try clear c42b0
                                try clear c43
                                try clear c43b0
                                try clear hcz25_0
                                try clear hcz25_1
                                try clear hcz34_0
                                try clear hcz34_1
                                try clear hcz34_2
                                try clear hcz40_0
                                try clear hcz40_1
                                try clear hcz40_2
                                try clear hcz45_0
                                try clear hcz45_1
                                try clear hcz45_2
                                try clear hfz25_0
                                try clear hfz25_1
                                try clear hfz34_0
                                try clear hfz34_1
                                try clear hfz34_2
                                try clear hfz40_0
                                try clear hfz40_1
                                try clear hfz40_2
                                try clear hfz45_0
                                try clear hfz45_1
                                try clear hfz45_2
                                try clear hx142_0
                                try clear hx142_1
                                try clear hx142_2
                                try clear hx143_0
                                try clear hx143_1
                                try clear hx143_2
                                try clear hx146_0
                                try clear hx146_1
                                try clear hx146_2
                                try clear hx155_0
                                try clear hx155_1
                                try clear hx155_2
                                try clear hx157_0
                                try clear hx157_1
                                try clear hx157_2
                                try clear p1
                                try clear p14
                                try clear p142
                                try clear p143
                                try clear p146
                                try clear p155
                                try clear p157
                                try clear p2
                                try clear p6
                                try clear q1
                                try clear q14
                                try clear q142
                                try clear q143
                                try clear q146
                                try clear q155
                                try clear q157
                                obtain ⟨kq, x86_31, rfl, HA, HJ31, HO_4, BK156, HB⟩ := hcut
                                cases kq with
                                | zero => exact absurd HA.out (by simp [calamusref11_Segs.j4])
                                | succ kj31 =>
                                  have H := HA.out
                                  clear HA
                                  simp only [calamusref11_Segs.j4] at H
                                  by_cases c47 : x86_31 = true
                                  · subst c47
                                    have H1 : (if 0 ≤ (wrap64 ((x4_4.length : Int) - 1)) then (if (wrap64 ((x4_4.length : Int) - 1)) < (x4_4.length : Int) then ((calamusref11_at.f ((rd_T39 x4_4 (wrap64 ((x4_4.length : Int) - 1))).f0) ((rd_T39 x4_4 (wrap64 ((x4_4.length : Int) - 1))).f1) ((rd_T39 x4_4 (wrap64 ((x4_4.length : Int) - 1))).f2)).bind fun bt159 => ((calamusref11_at.f ((rd_T39 l0 (ji29)).f0) ((rd_T39 l0 (ji29)).f1) ((rd_T39 l0 (ji29)).f2)).bind fun bt161 => ((calamusref11_Mid.f bt159.1 bt159.2 bt161.1 bt161.2).bind fun bt163 => (if x4_4.length < 5864062014805 then ((some (x4_4 ++ [(⟨bt163.1, bt163.2, true⟩ : S39)] : List (S39))).bind fun y166 => (if y166.length < 5864062014805 then (calamusref11_Segs.l1 kj31 l0 x3_6 (y166 ++ [(⟨((rd_T39 l0 (ji29)).f0), ((rd_T39 l0 (ji29)).f1), ((rd_T39 l0 (ji29)).f2)⟩ : S39)]) (wrap64 (x6_4 + 1))) else (none))) else (none))))) else (none)) else (none)) = some r := by rw [if_pos rfl] at H; exact H
                                    clear H
                                    have H := H1
                                    clear H1
                                    obtain ⟨ji48, hji48⟩ : ∃ j_ : Int, (wrap64 ((x4_4.length : Int) - 1)) = j_ := ⟨_, rfl⟩
                                    replace H : (if 0 ≤ (ji48) then (if (ji48) < (x4_4.length : Int) then ((calamusref11_at.f ((rd_T39 x4_4 (ji48)).f0) ((rd_T39 x4_4 (ji48)).f1) ((rd_T39 x4_4 (ji48)).f2)).bind fun bt159 => ((calamusref11_at.f ((rd_T39 l0 (ji29)).f0) ((rd_T39 l0 (ji29)).f1) ((rd_T39 l0 (ji29)).f2)).bind fun bt161 => ((calamusref11_Mid.f bt159.1 bt159.2 bt161.1 bt161.2).bind fun bt163 => (if x4_4.length < 5864062014805 then ((some (x4_4 ++ [(⟨bt163.1, bt163.2, true⟩ : S39)] : List (S39))).bind fun y166 => (if y166.length < 5864062014805 then (calamusref11_Segs.l1 kj31 l0 x3_6 (y166 ++ [(⟨((rd_T39 l0 (ji29)).f0), ((rd_T39 l0 (ji29)).f1), ((rd_T39 l0 (ji29)).f2)⟩ : S39)]) (wrap64 (x6_4 + 1))) else (none))) else (none))))) else (none)) else (none)) = some r := by first | (rw [hji48] at H; exact H) | (simp only [hji48] at H ⊢; exact H)
                                    have hji48w : (IntKind.i64.wrap ((x4_4.length : Int) - 1)) = ji48 := (i64_w _).trans hji48
                                    by_cases c49 : 0 ≤ (ji48)
                                    · rw [if_pos c49] at H
                                      have c49b0 : decide (0 ≤ (ji48)) = true := decide_eq_true c49
                                      clear c49
                                      by_cases c50 : (ji48) < (x4_4.length : Int)
                                      · rw [if_pos c50] at H
                                        have c50b0 : decide ((ji48) < (x4_4.length : Int)) = true := decide_eq_true c50
                                        clear c50
                                        replace H := Option.bind_eq_some_iff.mp H
                                        obtain ⟨⟨t159, t160⟩, A510, H⟩ := H
                                        replace H : ((calamusref11_at.f ((rd_T39 l0 (ji29)).f0) ((rd_T39 l0 (ji29)).f1) ((rd_T39 l0 (ji29)).f2)).bind fun bt161 => ((calamusref11_Mid.f t159 t160 bt161.1 bt161.2).bind fun bt163 => (if x4_4.length < 5864062014805 then ((some (x4_4 ++ [(⟨bt163.1, bt163.2, true⟩ : S39)] : List (S39))).bind fun y166 => (if y166.length < 5864062014805 then (calamusref11_Segs.l1 kj31 l0 x3_6 (y166 ++ [(⟨((rd_T39 l0 (ji29)).f0), ((rd_T39 l0 (ji29)).f1), ((rd_T39 l0 (ji29)).f2)⟩ : S39)]) (wrap64 (x6_4 + 1))) else (none))) else (none)))) = some r := H
                                        have A51 := Aside0.mk A510
                                        clear A510
                                        replace H := Option.bind_eq_some_iff.mp H
                                        obtain ⟨⟨t161, t162⟩, A520, H⟩ := H
                                        replace H : ((calamusref11_Mid.f t159 t160 t161 t162).bind fun bt163 => (if x4_4.length < 5864062014805 then ((some (x4_4 ++ [(⟨bt163.1, bt163.2, true⟩ : S39)] : List (S39))).bind fun y166 => (if y166.length < 5864062014805 then (calamusref11_Segs.l1 kj31 l0 x3_6 (y166 ++ [(⟨((rd_T39 l0 (ji29)).f0), ((rd_T39 l0 (ji29)).f1), ((rd_T39 l0 (ji29)).f2)⟩ : S39)]) (wrap64 (x6_4 + 1))) else (none))) else (none))) = some r := H
                                        have A52 := Aside0.mk A520
                                        clear A520
                                        replace H := Option.bind_eq_some_iff.mp H
                                        obtain ⟨⟨t163, t164⟩, A530, H⟩ := H
                                        replace H : (if x4_4.length < 5864062014805 then ((some (x4_4 ++ [(⟨t163, t164, true⟩ : S39)] : List (S39))).bind fun y166 => (if y166.length < 5864062014805 then (calamusref11_Segs.l1 kj31 l0 x3_6 (y166 ++ [(⟨((rd_T39 l0 (ji29)).f0), ((rd_T39 l0 (ji29)).f1), ((rd_T39 l0 (ji29)).f2)⟩ : S39)]) (wrap64 (x6_4 + 1))) else (none))) else (none)) = some r := H
                                        have A53 := Aside0.mk A530
                                        clear A530
                                        by_cases c54 : x4_4.length < 5864062014805
                                        · rw [if_pos c54] at H
                                          have LMc54 := Aside0.mk c54
                                          clear c54
                                          obtain ⟨y166, hy166⟩ : ∃ y_ : List (S39), y_ = (x4_4 ++ [(⟨t163, t164, true⟩ : S39)]) := ⟨_, rfl⟩
                                          replace H : (if y166.length < 5864062014805 then (calamusref11_Segs.l1 kj31 l0 x3_6 (y166 ++ [(⟨((rd_T39 l0 (ji29)).f0), ((rd_T39 l0 (ji29)).f1), ((rd_T39 l0 (ji29)).f2)⟩ : S39)]) (wrap64 (x6_4 + 1))) else (none)) = some r := by first | (rw [hy166]; with_reducible exact H) | (have H2_ := (Option.bind_some _ _).symm.trans H; rw [hy166]; with_reducible exact H2_) | (have H2_ := (Option.bind_some _ _).symm.trans H; with_reducible exact H2_) | with_reducible exact H | (rw [hy166]; exact H) | exact H
                                          have Ny166 := Aside0.mk hy166
                                          clear hy166
                                          by_cases c55 : y166.length < 5864062014805
                                          · rw [if_pos c55] at H
                                            have LMc55 := Aside0.mk c55
                                            clear c55
                                            obtain ⟨y169, hy169⟩ : ∃ y_ : List (S39), y_ = (y166 ++ [(⟨((rd_T39 l0 (ji29)).f0), ((rd_T39 l0 (ji29)).f1), ((rd_T39 l0 (ji29)).f2)⟩ : S39)]) := ⟨_, rfl⟩
                                            replace H : (calamusref11_Segs.l1 kj31 l0 x3_6 y169 (wrap64 (x6_4 + 1))) = some r := by first | (rw [hy169]; with_reducible exact H) | (have H2_ := (Option.bind_some _ _).symm.trans H; rw [hy169]; with_reducible exact H2_) | (have H2_ := (Option.bind_some _ _).symm.trans H; with_reducible exact H2_) | with_reducible exact H | (rw [hy169]; exact H) | exact H
                                            have Ny169 := Aside0.mk hy169
                                            clear hy169
                                            have H' := Aside0.mk H
                                            clear H
                                            try go_wp2
                                            have n0_ := Aside0.mk (Kd.R_drew HO_4.out)
                                            have n1_ := Aside0.mk (blk_drew BK156.out)
                                            have n2_ := Aside0.mk (below_drew1 HB.out)
                                            clear HO_4
                                            clear BK156
                                            clear HB
                                            have HO_4 := n0_
                                            have BK156 := n1_
                                            have HB := n2_
                                            clear n0_ n1_ n2_
                                            obtain ⟨Ao57, co57, eo57⟩ := Kd.R_slice HO_4.out
                                            (first | subst eo57 | (injection eo57 with f1_ f2_ f3_; have f4_ := f1_.symm; have f5_ := f3_.symm; clear f1_ f2_ f3_; subst f4_; subst f5_))
                                            have p158 : 0 ≤ ((ji48) : Int) := of_decide_eq_true (by first | (with_reducible assumption) | assumption)
                                            have q158 : (ji48) < (x4_4.length : Int) := of_decide_eq_true (by first | (with_reducible assumption) | assumption)
                                            obtain ⟨ad158, e158, hx158_0, hx158_1, hx158_2⟩ := at_T39 (Kd.R_reads' HO_4.out).2.2 (ji48) p158 q158
                                            cases e158
                                            replace p158 := eq_true p158
                                            replace q158 := eq_true q158
                                            refine start_ (n := 12) (S := fun w' => w'.cell? ⟨gb156, 0, none⟩ = some (.int .i64 ((rd_T39 l0 (ji29)).f0)) ∧ w'.cell? ⟨gb156, 1, none⟩ = some (.int .i64 ((rd_T39 l0 (ji29)).f1)) ∧ w'.cell? ⟨gb156, 2, none⟩ = some (.bool ((rd_T39 l0 (ji29)).f2)) ∧ w'.cell? (ad158.add (((ji48)).toNat * 3)) = some (.int .i64 ((rd_T39 x4_4 (ji48)).f0)) ∧ w'.cell? ⟨(ad158.add (((ji48)).toNat * 3)).block, (ad158.add (((ji48)).toNat * 3)).off + 1, none⟩ = some (.int .i64 ((rd_T39 x4_4 (ji48)).f1)) ∧ w'.cell? ⟨(ad158.add (((ji48)).toNat * 3)).block, (ad158.add (((ji48)).toNat * 3)).off + 2, none⟩ = some (.bool ((rd_T39 x4_4 (ji48)).f2))) (ds := []) #[false, false, false, false, false, false, false, false, false, false, false, false] (by kernel_rfl) rfl rfl ⟨(blk_cell BK156.out 0).trans rfl, (blk_cell BK156.out 1).trans rfl, (blk_cell BK156.out 2).trans rfl, hx158_0, hx158_1, hx158_2⟩ (fun hHeld => ?_); refine with_tabW calamusref11_Segs.tab16 calamusref11_Segs.bits16 (fun HT_ HW_ => ?_)
                                            generalize wc.drew = w56 at HO_4 BK156 HB hx158_0 hx158_1 hx158_2 hHeld ⊢
                                            refine pure_ (i := 0) (N := some 87) (v := ?_) (a' := ?_) #[true, false, false, false, false, false, false, false, false, false, false, false] rfl rfl (any_of HT_.out (by kernel_rfl)) (fun _ _ _ h => h) (Or.inl ⟨by rfl, ?_⟩) ?_ ?_
                                            rotate_left
                                            · intro w'
                                              go_simp
                                              with_reducible rfl
                                            rotate_left
                                            · simp only [Act.put, List.setIfInBounds_toArray, List.set_cons_zero, List.set_cons_succ, i64_w, i32_w]
                                              rfl
                                            refine pure_ (i := 1) (N := some 88) (v := ?_) (a' := ?_) #[true, true, false, false, false, false, false, false, false, false, false, false] rfl rfl (any_of HT_.out (by kernel_rfl)) (fun _ _ _ h => h) (Or.inl ⟨by rfl, ?_⟩) ?_ ?_
                                            rotate_left
                                            · intro w'
                                              go_simp
                                              with_reducible rfl
                                            rotate_left
                                            · simp only [Act.put, List.setIfInBounds_toArray, List.set_cons_zero, List.set_cons_succ, i64_w, i32_w]
                                              rfl
                                            refine pure_ (i := 2) (N := some 89) (v := ?_) (a' := ?_) #[true, true, true, false, false, false, false, false, false, false, false, false] rfl rfl (any_of HT_.out (by kernel_rfl)) (fun _ _ _ h => h) (Or.inl ⟨by rfl, ?_⟩) ?_ ?_
                                            rotate_left
                                            · intro w'
                                              go_simp
                                              with_reducible rfl
                                            rotate_left
                                            · simp only [Act.put, List.setIfInBounds_toArray, List.set_cons_zero, List.set_cons_succ, i64_w, i32_w]
                                              rfl
                                            refine pure_ (i := 3) (N := some 90) (v := ?_) (a' := ?_) #[true, true, true, true, false, false, false, false, false, false, false, false] rfl rfl (any_of HT_.out (by kernel_rfl)) (fun _ _ _ h => h) (Or.inl ⟨by rfl, ?_⟩) ?_ ?_
                                            rotate_left
                                            · intro w'
                                              go_simp
                                              with_reducible rfl
                                            rotate_left
                                            · simp only [Act.put, List.setIfInBounds_toArray, List.set_cons_zero, List.set_cons_succ, i64_w, i32_w]
                                              rfl
                                            refine pure_ (i := 4) (N := some 91) (v := ?_) (a' := ?_) #[true, true, true, true, true, false, false, false, false, false, false, false] rfl rfl (any_of HT_.out (by kernel_rfl)) (fun _ _ _ h => h) (Or.inl ⟨by rfl, ?_⟩) ?_ ?_
                                            rotate_left
                                            · intro w'
                                              go_simp
                                              with_reducible rfl
                                            rotate_left
                                            · simp only [Act.put, List.setIfInBounds_toArray, List.set_cons_zero, List.set_cons_succ, i64_w, i32_w]
                                              rfl
                                            refine take_ (i := 5) (N := some 92) (v := ?_) (a' := ?_) #[true, true, true, true, true, true, false, false, false, false, false, false] rfl rfl (take_ofW HT_.out HW_.out (by kernel_rfl)) (fun _ _ _ h => h) (Or.inl ⟨by rfl, ?_⟩) hHeld ?_ ?_
                                            rotate_left
                                            · rintro w' ⟨s0, s1, s2, s3, s4, s5⟩
                                              go_simp
                                              with_reducible rfl
                                            rotate_left
                                            · simp only [Act.put, List.setIfInBounds_toArray, List.set_cons_zero, List.set_cons_succ, i64_w, i32_w]
                                              rfl
                                            refine take_ (i := 7) (N := some 94) (v := ?_) (a' := ?_) #[true, true, true, true, true, true, false, true, false, false, false, false] rfl rfl (take_ofW HT_.out HW_.out (by kernel_rfl)) (fun _ _ _ h => h) (Or.inl ⟨by rfl, ?_⟩) hHeld ?_ ?_
                                            rotate_left
                                            · rintro w' ⟨s0, s1, s2, s3, s4, s5⟩
                                              go_simp
                                              with_reducible rfl
                                            rotate_left
                                            · simp only [Act.put, List.setIfInBounds_toArray, List.set_cons_zero, List.set_cons_succ, i64_w, i32_w]
                                              rfl
                                            refine join_ (σ := Nat) 1 #[true, true, true, true, true, true, true, true, true, true, true, false] (fun s_ => [(93, .agg #[.int .i64 t159, .int .i64 t160]), (95, .agg #[.int .i64 t161, .int .i64 t162]), (96, .agg #[.int .i64 t163, .int .i64 t164]), (8, .pointer (some ⟨s_, 0, none⟩))]) (fun s_ w' => (w'.cell? ⟨gb156, 0, none⟩ = some (.int .i64 ((rd_T39 l0 (ji29)).f0)) ∧ w'.cell? ⟨gb156, 1, none⟩ = some (.int .i64 ((rd_T39 l0 (ji29)).f1)) ∧ w'.cell? ⟨gb156, 2, none⟩ = some (.bool ((rd_T39 l0 (ji29)).f2)) ∧ w'.cell? (ad158.add (((ji48)).toNat * 3)) = some (.int .i64 ((rd_T39 x4_4 (ji48)).f0)) ∧ w'.cell? ⟨(ad158.add (((ji48)).toNat * 3)).block, (ad158.add (((ji48)).toNat * 3)).off + 1, none⟩ = some (.int .i64 ((rd_T39 x4_4 (ji48)).f1)) ∧ w'.cell? ⟨(ad158.add (((ji48)).toNat * 3)).block, (ad158.add (((ji48)).toNat * 3)).off + 2, none⟩ = some (.bool ((rd_T39 x4_4 (ji48)).f2))) ∧ (Kd.R k39 39 w' w.heap.size (fun k_ => k_ ≠ gb156) (.slice (some ad158) x4_4.length co57) x4_4) ∧ (w'.heap[gb156]? = some (.cells #[.int .i64 ((rd_T39 l0 (ji29)).f0), .int .i64 ((rd_T39 l0 (ji29)).f1), .bool ((rd_T39 l0 (ji29)).f2)] 39 (0, 0))) ∧ (w'.heap[s_]? = some (.cells #[.int .i64 0, .int .i64 0] 33 (0, 0))) ∧ (w.heap.size ≤ s_) ∧ (w.heap.size ≤ s_) ∧ (gb156 ≠ s_) ∧ (s_ ≠ gb156) ∧ (Below w.heap.size w w')) ?_ ?_
                                            rotate_left
                                            · intro hCont
                                              refine two_ (i := 6) (j := 10) (Ni := some 93) (Nj := some 8) #[true, true, true, true, true, true, true, true, false, false, false, false] #[true, true, true, true, true, true, false, true, false, false, true, false] rfl rfl rfl rfl (two_of HT_.out (by kernel_rfl)) (by decide) (by decide) (fun K hK => ?_) (fun K hK => ?_)
                                              · skip
                                                refine goes_ Try.func49 (by kernel_rfl) rfl #[.agg #[.int .i64 ((rd_T39 x4_4 (ji48)).f0), .int .i64 ((rd_T39 x4_4 (ji48)).f1), .bool ((rd_T39 x4_4 (ji48)).f2)]] (by rfl) rfl rfl (by (try simp only [List.map_toArray, List.map_cons, List.map_nil]); first | done | (simp only [hji48]; rfl) | rfl | (simp only [List.length_drop, List.length_take]; rfl)) ?_
                                                with_reducible refine (calamusref11_at.calls ((rd_T39 x4_4 (ji48)).f0) ((rd_T39 x4_4 (ji48)).f1) ((rd_T39 x4_4 (ji48)).f2) t159 t160 _ A51.out).mono ?_
                                                rintro e w58 ⟨rfl, hb⟩
                                                have HS3_ := (hb.cell (World.block_lt_of_cell? _ _ (hHeld.2.2.2.1))).trans (hHeld.2.2.2.1)
                                                have HS4_ := (hb.cell (World.block_lt_of_cell? _ _ (hHeld.2.2.2.2.1))).trans (hHeld.2.2.2.2.1)
                                                have HS5_ := (hb.cell (World.block_lt_of_cell? _ _ (hHeld.2.2.2.2.2))).trans (hHeld.2.2.2.2.2)
                                                refine ⟨_, rfl, ?_⟩
                                                have n0_ := Aside0.mk (Kd.R_below (by (with_reducible repeat (first | apply Kd.R_alloc | apply Kd.R_drewN | apply Kd.R_drew)); exact HO_4.out) hb)
                                                have n1_ := Aside0.mk (blk_below (g := gb156) (o := .cells #[.int .i64 ((rd_T39 l0 (ji29)).f0), .int .i64 ((rd_T39 l0 (ji29)).f1), .bool ((rd_T39 l0 (ji29)).f2)] 39 (0, 0)) (by (with_reducible repeat (first | refine blk_drewN ?_ _ | refine blk_drew ?_ | refine blk_alloc ?_ _)); exact BK156.out) hb)
                                                have n2_ := Aside0.mk (below_step (by repeat (first | (with_reducible first | exact HB.out | apply below_alloc | apply pw_below_drewN | apply below_drew1 | refine below_set ?_ GE156.out) | exact HB.out)) hb)
                                                clear HO_4
                                                clear BK156
                                                clear HB
                                                have HO_4 := n0_
                                                have BK156 := n1_
                                                have HB := n2_
                                                clear n0_ n1_ n2_
                                                (try clear hb)
                                                (try clear hb2)
                                                (try clear hk)
                                                (try clear hi)
                                                refine hK.out _ _ ⟨(blk_cell BK156.out 0).trans rfl, (blk_cell BK156.out 1).trans rfl, (blk_cell BK156.out 2).trans rfl, HS3_, HS4_, HS5_⟩ (fun hHeld => ?_)
                                                clear hK K
                                                refine norm_ (a' := ?_) ?_ ?_
                                                rotate_left
                                                · show Act.put _ (some 93) _ = _
                                                  simp only [Act.put, List.setIfInBounds_toArray, List.set_cons_zero, List.set_cons_succ, i64_w, i32_w]
                                                  rfl
                                                refine two_ (i := 8) (j := 10) (Ni := some 95) (Nj := some 8) #[true, true, true, true, true, true, true, true, true, false, false, false] #[true, true, true, true, true, true, true, true, false, false, true, false] rfl rfl rfl rfl (two_of HT_.out (by kernel_rfl)) (by decide) (by decide) (fun K hK => ?_) (fun K hK => ?_)
                                                · skip
                                                  refine goes_ Try.func49 (by kernel_rfl) rfl #[.agg #[.int .i64 ((rd_T39 l0 (ji29)).f0), .int .i64 ((rd_T39 l0 (ji29)).f1), .bool ((rd_T39 l0 (ji29)).f2)]] (by rfl) rfl rfl (by (try simp only [List.map_toArray, List.map_cons, List.map_nil]); first | done | (simp only [hji29]; rfl) | rfl | (simp only [List.length_drop, List.length_take]; rfl)) ?_
                                                  with_reducible refine (calamusref11_at.calls ((rd_T39 l0 (ji29)).f0) ((rd_T39 l0 (ji29)).f1) ((rd_T39 l0 (ji29)).f2) t161 t162 _ A52.out).mono ?_
                                                  rintro e w59 ⟨rfl, hb⟩
                                                  have HS3_ := (hb.cell (World.block_lt_of_cell? _ _ (hHeld.2.2.2.1))).trans (hHeld.2.2.2.1)
                                                  have HS4_ := (hb.cell (World.block_lt_of_cell? _ _ (hHeld.2.2.2.2.1))).trans (hHeld.2.2.2.2.1)
                                                  have HS5_ := (hb.cell (World.block_lt_of_cell? _ _ (hHeld.2.2.2.2.2))).trans (hHeld.2.2.2.2.2)
                                                  refine ⟨_, rfl, ?_⟩
                                                  have n0_ := Aside0.mk (Kd.R_below (by (with_reducible repeat (first | apply Kd.R_alloc | apply Kd.R_drewN | apply Kd.R_drew)); exact HO_4.out) hb)
                                                  have n1_ := Aside0.mk (blk_below (g := gb156) (o := .cells #[.int .i64 ((rd_T39 l0 (ji29)).f0), .int .i64 ((rd_T39 l0 (ji29)).f1), .bool ((rd_T39 l0 (ji29)).f2)] 39 (0, 0)) (by (with_reducible repeat (first | refine blk_drewN ?_ _ | refine blk_drew ?_ | refine blk_alloc ?_ _)); exact BK156.out) hb)
                                                  have n2_ := Aside0.mk (below_step (by repeat (first | (with_reducible first | exact HB.out | apply below_alloc | apply pw_below_drewN | apply below_drew1 | refine below_set ?_ GE156.out) | exact HB.out)) hb)
                                                  clear HO_4
                                                  clear BK156
                                                  clear HB
                                                  have HO_4 := n0_
                                                  have BK156 := n1_
                                                  have HB := n2_
                                                  clear n0_ n1_ n2_
                                                  (try clear hb)
                                                  (try clear hb2)
                                                  (try clear hk)
                                                  (try clear hi)
                                                  refine hK.out _ _ ⟨(blk_cell BK156.out 0).trans rfl, (blk_cell BK156.out 1).trans rfl, (blk_cell BK156.out 2).trans rfl, HS3_, HS4_, HS5_⟩ (fun hHeld => ?_)
                                                  clear hK K
                                                  refine norm_ (a' := ?_) ?_ ?_
                                                  rotate_left
                                                  · show Act.put _ (some 95) _ = _
                                                    simp only [Act.put, List.setIfInBounds_toArray, List.set_cons_zero, List.set_cons_succ, i64_w, i32_w]
                                                    rfl
                                                  refine two_ (i := 9) (j := 10) (Ni := some 96) (Nj := some 8) #[true, true, true, true, true, true, true, true, true, true, false, false] #[true, true, true, true, true, true, true, true, true, false, true, false] rfl rfl rfl rfl (two_of HT_.out (by kernel_rfl)) (by decide) (by decide) (fun K hK => ?_) (fun K hK => ?_)
                                                  · skip
                                                    refine goes_ Try.func21 (by kernel_rfl) rfl #[.agg #[.int .i64 t159, .int .i64 t160], .agg #[.int .i64 t161, .int .i64 t162]] (by rfl) rfl rfl (by (try simp only [List.map_toArray, List.map_cons, List.map_nil]); first | done | rfl | (simp only [List.length_drop, List.length_take]; rfl)) ?_
                                                    with_reducible refine (calamusref11_Mid.calls t159 t160 t161 t162 t163 t164 _ A53.out).mono ?_
                                                    rintro e w60 ⟨rfl, hb⟩
                                                    have HS3_ := (hb.cell (World.block_lt_of_cell? _ _ (hHeld.2.2.2.1))).trans (hHeld.2.2.2.1)
                                                    have HS4_ := (hb.cell (World.block_lt_of_cell? _ _ (hHeld.2.2.2.2.1))).trans (hHeld.2.2.2.2.1)
                                                    have HS5_ := (hb.cell (World.block_lt_of_cell? _ _ (hHeld.2.2.2.2.2))).trans (hHeld.2.2.2.2.2)
                                                    refine ⟨_, rfl, ?_⟩
                                                    have n0_ := Aside0.mk (Kd.R_below (by (with_reducible repeat (first | apply Kd.R_alloc | apply Kd.R_drewN | apply Kd.R_drew)); exact HO_4.out) hb)
                                                    have n1_ := Aside0.mk (blk_below (g := gb156) (o := .cells #[.int .i64 ((rd_T39 l0 (ji29)).f0), .int .i64 ((rd_T39 l0 (ji29)).f1), .bool ((rd_T39 l0 (ji29)).f2)] 39 (0, 0)) (by (with_reducible repeat (first | refine blk_drewN ?_ _ | refine blk_drew ?_ | refine blk_alloc ?_ _)); exact BK156.out) hb)
                                                    have n2_ := Aside0.mk (below_step (by repeat (first | (with_reducible first | exact HB.out | apply below_alloc | apply pw_below_drewN | apply below_drew1 | refine below_set ?_ GE156.out) | exact HB.out)) hb)
                                                    clear HO_4
                                                    clear BK156
                                                    clear HB
                                                    have HO_4 := n0_
                                                    have BK156 := n1_
                                                    have HB := n2_
                                                    clear n0_ n1_ n2_
                                                    (try clear hb)
                                                    (try clear hb2)
                                                    (try clear hk)
                                                    (try clear hi)
                                                    refine hK.out _ _ ⟨(blk_cell BK156.out 0).trans rfl, (blk_cell BK156.out 1).trans rfl, (blk_cell BK156.out 2).trans rfl, HS3_, HS4_, HS5_⟩ (fun hHeld => ?_)
                                                    clear hK K
                                                    refine norm_ (a' := ?_) ?_ ?_
                                                    rotate_left
                                                    · show Act.put _ (some 96) _ = _
                                                      simp only [Act.put, List.setIfInBounds_toArray, List.set_cons_zero, List.set_cons_succ, i64_w, i32_w]
                                                      rfl
                                                    refine one_ (i := 10) (N := some 8) #[true, true, true, true, true, true, true, true, true, true, true, false] rfl rfl (one_of HT_.out (by kernel_rfl)) (by decide) (fun K hK => ?_)
                                                    refine box_step ?hg (N := 8) ?hd (cs := #[.int .i64 0, .int .i64 0]) (t := 33) ?hr ?_; (case hd => rfl); (case hg => rfl); (case hr => first | (go_simp; done) | (go_simp; rfl))
                                                    intro gb165 hg w61 hbox hb
                                                    have HS3_ := (hb.cell (World.block_lt_of_cell? _ _ (hHeld.2.2.2.1))).trans (hHeld.2.2.2.1)
                                                    have HS4_ := (hb.cell (World.block_lt_of_cell? _ _ (hHeld.2.2.2.2.1))).trans (hHeld.2.2.2.2.1)
                                                    have HS5_ := (hb.cell (World.block_lt_of_cell? _ _ (hHeld.2.2.2.2.2))).trans (hHeld.2.2.2.2.2)
                                                    have n0_ := Aside0.mk (Kd.R_below (by (with_reducible repeat (first | apply Kd.R_alloc | apply Kd.R_drewN | apply Kd.R_drew)); exact HO_4.out) hb)
                                                    have n1_ := Aside0.mk (blk_below (g := gb156) (o := .cells #[.int .i64 ((rd_T39 l0 (ji29)).f0), .int .i64 ((rd_T39 l0 (ji29)).f1), .bool ((rd_T39 l0 (ji29)).f2)] 39 (0, 0)) (by (with_reducible repeat (first | refine blk_drewN ?_ _ | refine blk_drew ?_ | refine blk_alloc ?_ _)); exact BK156.out) hb)
                                                    have n2_ := Aside0.mk (below_step (by repeat (first | (with_reducible first | exact HB.out | apply below_alloc | apply pw_below_drewN | apply below_drew1 | refine below_set ?_ GE156.out) | exact HB.out)) hb)
                                                    have n3_ := Aside0.mk (hbox)
                                                    have n4_ := Aside0.mk ((by rw [hg]; exact (below_size (by repeat (first | (with_reducible first | exact HB.out | apply below_alloc | apply pw_below_drewN | apply below_drew1 | refine below_set ?_ GE156.out) | exact HB.out))) : w.heap.size ≤ gb165))
                                                    have n5_ := Aside0.mk ((by rw [hg]; exact (below_size (by repeat (first | (with_reducible first | exact HB.out | apply below_alloc | apply pw_below_drewN | apply below_drew1 | refine below_set ?_ GE156.out) | exact HB.out))) : w.heap.size ≤ gb165))
                                                    have n6_ := Aside0.mk ((by rw [hg]; exact Nat.ne_of_lt (blk_lt (g := gb156) (o := .cells #[.int .i64 ((rd_T39 l0 (ji29)).f0), .int .i64 ((rd_T39 l0 (ji29)).f1), .bool ((rd_T39 l0 (ji29)).f2)] 39 (0, 0)) (by (with_reducible repeat (first | refine blk_drewN ?_ _ | refine blk_drew ?_ | refine blk_alloc ?_ _)); exact BK156.out)) : gb156 ≠ gb165))
                                                    have n7_ := Aside0.mk ((by rw [hg]; exact Nat.ne_of_gt (blk_lt (g := gb156) (o := .cells #[.int .i64 ((rd_T39 l0 (ji29)).f0), .int .i64 ((rd_T39 l0 (ji29)).f1), .bool ((rd_T39 l0 (ji29)).f2)] 39 (0, 0)) (by (with_reducible repeat (first | refine blk_drewN ?_ _ | refine blk_drew ?_ | refine blk_alloc ?_ _)); exact BK156.out)) : gb165 ≠ gb156))
                                                    clear HO_4
                                                    clear BK156
                                                    clear HB
                                                    have HO_4 := n0_
                                                    have BK156 := n1_
                                                    have HB := n2_
                                                    have BK165 := n3_
                                                    have GW165 := n4_
                                                    have GE165 := n5_
                                                    have NB156_165 := n6_
                                                    have NB165_156 := n7_
                                                    clear n0_ n1_ n2_ n3_ n4_ n5_ n6_ n7_
                                                    clear hb hbox hg
                                                    refine hK.out _ _ ⟨(blk_cell BK156.out 0).trans rfl, (blk_cell BK156.out 1).trans rfl, (blk_cell BK156.out 2).trans rfl, HS3_, HS4_, HS5_⟩ (fun hHeld => ?_)
                                                    clear hK K
                                                    refine norm_ (a' := ?_) ?_ ?_
                                                    rotate_left
                                                    · show Act.put _ (some 8) _ = _
                                                      simp only [Act.put, List.setIfInBounds_toArray, List.set_cons_zero, List.set_cons_succ, i64_w, i32_w]
                                                      rfl
                                                    exact norm_ (by simp only [putAll, Act.put, List.setIfInBounds_toArray, List.set_cons_zero, List.set_cons_succ]) (hCont (gb165) _ ⟨hHeld, (by (with_reducible repeat (first | apply Kd.R_alloc | apply Kd.R_drewN | apply Kd.R_drew)); exact HO_4.out), (by (with_reducible repeat (first | refine blk_drewN ?_ _ | refine blk_drew ?_ | refine blk_alloc ?_ _)); exact BK156.out), (by (with_reducible repeat (first | refine blk_drewN ?_ _ | refine blk_drew ?_ | refine blk_alloc ?_ _)); exact BK165.out), GW165.out, GE165.out, NB156_165.out, NB165_156.out, (by repeat (first | (with_reducible first | exact HB.out | apply below_alloc | apply pw_below_drewN | apply below_drew1 | refine below_set ?_ GE156.out | refine below_set ?_ GE165.out) | exact HB.out))⟩)
                                                  · skip
                                                    refine box_step ?hg (N := 8) ?hd (cs := #[.int .i64 0, .int .i64 0]) (t := 33) ?hr ?_; (case hd => rfl); (case hg => rfl); (case hr => first | (go_simp; done) | (go_simp; rfl))
                                                    intro gb165 hg w60 hbox hb
                                                    have HS3_ := (hb.cell (World.block_lt_of_cell? _ _ (hHeld.2.2.2.1))).trans (hHeld.2.2.2.1)
                                                    have HS4_ := (hb.cell (World.block_lt_of_cell? _ _ (hHeld.2.2.2.2.1))).trans (hHeld.2.2.2.2.1)
                                                    have HS5_ := (hb.cell (World.block_lt_of_cell? _ _ (hHeld.2.2.2.2.2))).trans (hHeld.2.2.2.2.2)
                                                    have n0_ := Aside0.mk (Kd.R_below (by (with_reducible repeat (first | apply Kd.R_alloc | apply Kd.R_drewN | apply Kd.R_drew)); exact HO_4.out) hb)
                                                    have n1_ := Aside0.mk (blk_below (g := gb156) (o := .cells #[.int .i64 ((rd_T39 l0 (ji29)).f0), .int .i64 ((rd_T39 l0 (ji29)).f1), .bool ((rd_T39 l0 (ji29)).f2)] 39 (0, 0)) (by (with_reducible repeat (first | refine blk_drewN ?_ _ | refine blk_drew ?_ | refine blk_alloc ?_ _)); exact BK156.out) hb)
                                                    have n2_ := Aside0.mk (below_step (by repeat (first | (with_reducible first | exact HB.out | apply below_alloc | apply pw_below_drewN | apply below_drew1 | refine below_set ?_ GE156.out) | exact HB.out)) hb)
                                                    have n3_ := Aside0.mk (hbox)
                                                    have n4_ := Aside0.mk ((by rw [hg]; exact (below_size (by repeat (first | (with_reducible first | exact HB.out | apply below_alloc | apply pw_below_drewN | apply below_drew1 | refine below_set ?_ GE156.out) | exact HB.out))) : w.heap.size ≤ gb165))
                                                    have n5_ := Aside0.mk ((by rw [hg]; exact (below_size (by repeat (first | (with_reducible first | exact HB.out | apply below_alloc | apply pw_below_drewN | apply below_drew1 | refine below_set ?_ GE156.out) | exact HB.out))) : w.heap.size ≤ gb165))
                                                    have n6_ := Aside0.mk ((by rw [hg]; exact Nat.ne_of_lt (blk_lt (g := gb156) (o := .cells #[.int .i64 ((rd_T39 l0 (ji29)).f0), .int .i64 ((rd_T39 l0 (ji29)).f1), .bool ((rd_T39 l0 (ji29)).f2)] 39 (0, 0)) (by (with_reducible repeat (first | refine blk_drewN ?_ _ | refine blk_drew ?_ | refine blk_alloc ?_ _)); exact BK156.out)) : gb156 ≠ gb165))
                                                    have n7_ := Aside0.mk ((by rw [hg]; exact Nat.ne_of_gt (blk_lt (g := gb156) (o := .cells #[.int .i64 ((rd_T39 l0 (ji29)).f0), .int .i64 ((rd_T39 l0 (ji29)).f1), .bool ((rd_T39 l0 (ji29)).f2)] 39 (0, 0)) (by (with_reducible repeat (first | refine blk_drewN ?_ _ | refine blk_drew ?_ | refine blk_alloc ?_ _)); exact BK156.out)) : gb165 ≠ gb156))
                                                    clear HO_4
                                                    clear BK156
                                                    clear HB
                                                    have HO_4 := n0_
                                                    have BK156 := n1_
                                                    have HB := n2_
                                                    have BK165 := n3_
                                                    have GW165 := n4_
                                                    have GE165 := n5_
                                                    have NB156_165 := n6_
                                                    have NB165_156 := n7_
                                                    clear n0_ n1_ n2_ n3_ n4_ n5_ n6_ n7_
                                                    clear hb hbox hg
                                                    refine hK.out _ _ ⟨(blk_cell BK156.out 0).trans rfl, (blk_cell BK156.out 1).trans rfl, (blk_cell BK156.out 2).trans rfl, HS3_, HS4_, HS5_⟩ (fun hHeld => ?_)
                                                    clear hK K
                                                    refine norm_ (a' := ?_) ?_ ?_
                                                    rotate_left
                                                    · show Act.put _ (some 8) _ = _
                                                      simp only [Act.put, List.setIfInBounds_toArray, List.set_cons_zero, List.set_cons_succ, i64_w, i32_w]
                                                      rfl
                                                    refine one_ (i := 9) (N := some 96) #[true, true, true, true, true, true, true, true, true, true, true, false] rfl rfl (one_of HT_.out (by kernel_rfl)) (by decide) (fun K hK => ?_)
                                                    refine goes_ Try.func21 (by kernel_rfl) rfl #[.agg #[.int .i64 t159, .int .i64 t160], .agg #[.int .i64 t161, .int .i64 t162]] (by rfl) rfl rfl (by (try simp only [List.map_toArray, List.map_cons, List.map_nil]); first | done | rfl | (simp only [List.length_drop, List.length_take]; rfl)) ?_
                                                    with_reducible refine (calamusref11_Mid.calls t159 t160 t161 t162 t163 t164 _ A53.out).mono ?_
                                                    rintro e w61 ⟨rfl, hb⟩
                                                    have HS3_ := (hb.cell (World.block_lt_of_cell? _ _ (hHeld.2.2.2.1))).trans (hHeld.2.2.2.1)
                                                    have HS4_ := (hb.cell (World.block_lt_of_cell? _ _ (hHeld.2.2.2.2.1))).trans (hHeld.2.2.2.2.1)
                                                    have HS5_ := (hb.cell (World.block_lt_of_cell? _ _ (hHeld.2.2.2.2.2))).trans (hHeld.2.2.2.2.2)
                                                    refine ⟨_, rfl, ?_⟩
                                                    have n0_ := Aside0.mk (Kd.R_below (by (with_reducible repeat (first | apply Kd.R_alloc | apply Kd.R_drewN | apply Kd.R_drew)); exact HO_4.out) hb)
                                                    have n1_ := Aside0.mk (blk_below (g := gb156) (o := .cells #[.int .i64 ((rd_T39 l0 (ji29)).f0), .int .i64 ((rd_T39 l0 (ji29)).f1), .bool ((rd_T39 l0 (ji29)).f2)] 39 (0, 0)) (by (with_reducible repeat (first | refine blk_drewN ?_ _ | refine blk_drew ?_ | refine blk_alloc ?_ _)); exact BK156.out) hb)
                                                    have n2_ := Aside0.mk (blk_below (g := gb165) (o := .cells #[.int .i64 0, .int .i64 0] 33 (0, 0)) (by (with_reducible repeat (first | refine blk_drewN ?_ _ | refine blk_drew ?_ | refine blk_alloc ?_ _)); exact BK165.out) hb)
                                                    have n3_ := Aside0.mk (below_step (by repeat (first | (with_reducible first | exact HB.out | apply below_alloc | apply pw_below_drewN | apply below_drew1 | refine below_set ?_ GE156.out | refine below_set ?_ GE165.out) | exact HB.out)) hb)
                                                    clear HO_4
                                                    clear BK156
                                                    clear BK165
                                                    clear HB
                                                    have HO_4 := n0_
                                                    have BK156 := n1_
                                                    have BK165 := n2_
                                                    have HB := n3_
                                                    clear n0_ n1_ n2_ n3_
                                                    (try clear hb)
                                                    (try clear hb2)
                                                    (try clear hk)
                                                    (try clear hi)
                                                    refine hK.out _ _ ⟨(blk_cell BK156.out 0).trans rfl, (blk_cell BK156.out 1).trans rfl, (blk_cell BK156.out 2).trans rfl, HS3_, HS4_, HS5_⟩ (fun hHeld => ?_)
                                                    clear hK K
                                                    refine norm_ (a' := ?_) ?_ ?_
                                                    rotate_left
                                                    · show Act.put _ (some 96) _ = _
                                                      simp only [Act.put, List.setIfInBounds_toArray, List.set_cons_zero, List.set_cons_succ, i64_w, i32_w]
                                                      rfl
                                                    exact norm_ (by simp only [putAll, Act.put, List.setIfInBounds_toArray, List.set_cons_zero, List.set_cons_succ]) (hCont (gb165) _ ⟨hHeld, (by (with_reducible repeat (first | apply Kd.R_alloc | apply Kd.R_drewN | apply Kd.R_drew)); exact HO_4.out), (by (with_reducible repeat (first | refine blk_drewN ?_ _ | refine blk_drew ?_ | refine blk_alloc ?_ _)); exact BK156.out), (by (with_reducible repeat (first | refine blk_drewN ?_ _ | refine blk_drew ?_ | refine blk_alloc ?_ _)); exact BK165.out), GW165.out, GE165.out, NB156_165.out, NB165_156.out, (by repeat (first | (with_reducible first | exact HB.out | apply below_alloc | apply pw_below_drewN | apply below_drew1 | refine below_set ?_ GE156.out | refine below_set ?_ GE165.out) | exact HB.out))⟩)
                                                · skip
                                                  refine box_step ?hg (N := 8) ?hd (cs := #[.int .i64 0, .int .i64 0]) (t := 33) ?hr ?_; (case hd => rfl); (case hg => rfl); (case hr => first | (go_simp; done) | (go_simp; rfl))
                                                  intro gb165 hg w59 hbox hb
                                                  have HS3_ := (hb.cell (World.block_lt_of_cell? _ _ (hHeld.2.2.2.1))).trans (hHeld.2.2.2.1)
                                                  have HS4_ := (hb.cell (World.block_lt_of_cell? _ _ (hHeld.2.2.2.2.1))).trans (hHeld.2.2.2.2.1)
                                                  have HS5_ := (hb.cell (World.block_lt_of_cell? _ _ (hHeld.2.2.2.2.2))).trans (hHeld.2.2.2.2.2)
                                                  have n0_ := Aside0.mk (Kd.R_below (by (with_reducible repeat (first | apply Kd.R_alloc | apply Kd.R_drewN | apply Kd.R_drew)); exact HO_4.out) hb)
                                                  have n1_ := Aside0.mk (blk_below (g := gb156) (o := .cells #[.int .i64 ((rd_T39 l0 (ji29)).f0), .int .i64 ((rd_T39 l0 (ji29)).f1), .bool ((rd_T39 l0 (ji29)).f2)] 39 (0, 0)) (by (with_reducible repeat (first | refine blk_drewN ?_ _ | refine blk_drew ?_ | refine blk_alloc ?_ _)); exact BK156.out) hb)
                                                  have n2_ := Aside0.mk (below_step (by repeat (first | (with_reducible first | exact HB.out | apply below_alloc | apply pw_below_drewN | apply below_drew1 | refine below_set ?_ GE156.out) | exact HB.out)) hb)
                                                  have n3_ := Aside0.mk (hbox)
                                                  have n4_ := Aside0.mk ((by rw [hg]; exact (below_size (by repeat (first | (with_reducible first | exact HB.out | apply below_alloc | apply pw_below_drewN | apply below_drew1 | refine below_set ?_ GE156.out) | exact HB.out))) : w.heap.size ≤ gb165))
                                                  have n5_ := Aside0.mk ((by rw [hg]; exact (below_size (by repeat (first | (with_reducible first | exact HB.out | apply below_alloc | apply pw_below_drewN | apply below_drew1 | refine below_set ?_ GE156.out) | exact HB.out))) : w.heap.size ≤ gb165))
                                                  have n6_ := Aside0.mk ((by rw [hg]; exact Nat.ne_of_lt (blk_lt (g := gb156) (o := .cells #[.int .i64 ((rd_T39 l0 (ji29)).f0), .int .i64 ((rd_T39 l0 (ji29)).f1), .bool ((rd_T39 l0 (ji29)).f2)] 39 (0, 0)) (by (with_reducible repeat (first | refine blk_drewN ?_ _ | refine blk_drew ?_ | refine blk_alloc ?_ _)); exact BK156.out)) : gb156 ≠ gb165))
                                                  have n7_ := Aside0.mk ((by rw [hg]; exact Nat.ne_of_gt (blk_lt (g := gb156) (o := .cells #[.int .i64 ((rd_T39 l0 (ji29)).f0), .int .i64 ((rd_T39 l0 (ji29)).f1), .bool ((rd_T39 l0 (ji29)).f2)] 39 (0, 0)) (by (with_reducible repeat (first | refine blk_drewN ?_ _ | refine blk_drew ?_ | refine blk_alloc ?_ _)); exact BK156.out)) : gb165 ≠ gb156))
                                                  clear HO_4
                                                  clear BK156
                                                  clear HB
                                                  have HO_4 := n0_
                                                  have BK156 := n1_
                                                  have HB := n2_
                                                  have BK165 := n3_
                                                  have GW165 := n4_
                                                  have GE165 := n5_
                                                  have NB156_165 := n6_
                                                  have NB165_156 := n7_
                                                  clear n0_ n1_ n2_ n3_ n4_ n5_ n6_ n7_
                                                  clear hb hbox hg
                                                  refine hK.out _ _ ⟨(blk_cell BK156.out 0).trans rfl, (blk_cell BK156.out 1).trans rfl, (blk_cell BK156.out 2).trans rfl, HS3_, HS4_, HS5_⟩ (fun hHeld => ?_)
                                                  clear hK K
                                                  refine norm_ (a' := ?_) ?_ ?_
                                                  rotate_left
                                                  · show Act.put _ (some 8) _ = _
                                                    simp only [Act.put, List.setIfInBounds_toArray, List.set_cons_zero, List.set_cons_succ, i64_w, i32_w]
                                                    rfl
                                                  refine one_ (i := 8) (N := some 95) #[true, true, true, true, true, true, true, true, true, false, true, false] rfl rfl (one_of HT_.out (by kernel_rfl)) (by decide) (fun K hK => ?_)
                                                  refine goes_ Try.func49 (by kernel_rfl) rfl #[.agg #[.int .i64 ((rd_T39 l0 (ji29)).f0), .int .i64 ((rd_T39 l0 (ji29)).f1), .bool ((rd_T39 l0 (ji29)).f2)]] (by rfl) rfl rfl (by (try simp only [List.map_toArray, List.map_cons, List.map_nil]); first | done | (simp only [hji29]; rfl) | rfl | (simp only [List.length_drop, List.length_take]; rfl)) ?_
                                                  with_reducible refine (calamusref11_at.calls ((rd_T39 l0 (ji29)).f0) ((rd_T39 l0 (ji29)).f1) ((rd_T39 l0 (ji29)).f2) t161 t162 _ A52.out).mono ?_
                                                  rintro e w60 ⟨rfl, hb⟩
                                                  have HS3_ := (hb.cell (World.block_lt_of_cell? _ _ (hHeld.2.2.2.1))).trans (hHeld.2.2.2.1)
                                                  have HS4_ := (hb.cell (World.block_lt_of_cell? _ _ (hHeld.2.2.2.2.1))).trans (hHeld.2.2.2.2.1)
                                                  have HS5_ := (hb.cell (World.block_lt_of_cell? _ _ (hHeld.2.2.2.2.2))).trans (hHeld.2.2.2.2.2)
                                                  refine ⟨_, rfl, ?_⟩
                                                  have n0_ := Aside0.mk (Kd.R_below (by (with_reducible repeat (first | apply Kd.R_alloc | apply Kd.R_drewN | apply Kd.R_drew)); exact HO_4.out) hb)
                                                  have n1_ := Aside0.mk (blk_below (g := gb156) (o := .cells #[.int .i64 ((rd_T39 l0 (ji29)).f0), .int .i64 ((rd_T39 l0 (ji29)).f1), .bool ((rd_T39 l0 (ji29)).f2)] 39 (0, 0)) (by (with_reducible repeat (first | refine blk_drewN ?_ _ | refine blk_drew ?_ | refine blk_alloc ?_ _)); exact BK156.out) hb)
                                                  have n2_ := Aside0.mk (blk_below (g := gb165) (o := .cells #[.int .i64 0, .int .i64 0] 33 (0, 0)) (by (with_reducible repeat (first | refine blk_drewN ?_ _ | refine blk_drew ?_ | refine blk_alloc ?_ _)); exact BK165.out) hb)
                                                  have n3_ := Aside0.mk (below_step (by repeat (first | (with_reducible first | exact HB.out | apply below_alloc | apply pw_below_drewN | apply below_drew1 | refine below_set ?_ GE156.out | refine below_set ?_ GE165.out) | exact HB.out)) hb)
                                                  clear HO_4
                                                  clear BK156
                                                  clear BK165
                                                  clear HB
                                                  have HO_4 := n0_
                                                  have BK156 := n1_
                                                  have BK165 := n2_
                                                  have HB := n3_
                                                  clear n0_ n1_ n2_ n3_
                                                  (try clear hb)
                                                  (try clear hb2)
                                                  (try clear hk)
                                                  (try clear hi)
                                                  refine hK.out _ _ ⟨(blk_cell BK156.out 0).trans rfl, (blk_cell BK156.out 1).trans rfl, (blk_cell BK156.out 2).trans rfl, HS3_, HS4_, HS5_⟩ (fun hHeld => ?_)
                                                  clear hK K
                                                  refine norm_ (a' := ?_) ?_ ?_
                                                  rotate_left
                                                  · show Act.put _ (some 95) _ = _
                                                    simp only [Act.put, List.setIfInBounds_toArray, List.set_cons_zero, List.set_cons_succ, i64_w, i32_w]
                                                    rfl
                                                  refine one_ (i := 9) (N := some 96) #[true, true, true, true, true, true, true, true, true, true, true, false] rfl rfl (one_of HT_.out (by kernel_rfl)) (by decide) (fun K hK => ?_)
                                                  refine goes_ Try.func21 (by kernel_rfl) rfl #[.agg #[.int .i64 t159, .int .i64 t160], .agg #[.int .i64 t161, .int .i64 t162]] (by rfl) rfl rfl (by (try simp only [List.map_toArray, List.map_cons, List.map_nil]); first | done | rfl | (simp only [List.length_drop, List.length_take]; rfl)) ?_
                                                  with_reducible refine (calamusref11_Mid.calls t159 t160 t161 t162 t163 t164 _ A53.out).mono ?_
                                                  rintro e w61 ⟨rfl, hb⟩
                                                  have HS3_ := (hb.cell (World.block_lt_of_cell? _ _ (hHeld.2.2.2.1))).trans (hHeld.2.2.2.1)
                                                  have HS4_ := (hb.cell (World.block_lt_of_cell? _ _ (hHeld.2.2.2.2.1))).trans (hHeld.2.2.2.2.1)
                                                  have HS5_ := (hb.cell (World.block_lt_of_cell? _ _ (hHeld.2.2.2.2.2))).trans (hHeld.2.2.2.2.2)
                                                  refine ⟨_, rfl, ?_⟩
                                                  have n0_ := Aside0.mk (Kd.R_below (by (with_reducible repeat (first | apply Kd.R_alloc | apply Kd.R_drewN | apply Kd.R_drew)); exact HO_4.out) hb)
                                                  have n1_ := Aside0.mk (blk_below (g := gb156) (o := .cells #[.int .i64 ((rd_T39 l0 (ji29)).f0), .int .i64 ((rd_T39 l0 (ji29)).f1), .bool ((rd_T39 l0 (ji29)).f2)] 39 (0, 0)) (by (with_reducible repeat (first | refine blk_drewN ?_ _ | refine blk_drew ?_ | refine blk_alloc ?_ _)); exact BK156.out) hb)
                                                  have n2_ := Aside0.mk (blk_below (g := gb165) (o := .cells #[.int .i64 0, .int .i64 0] 33 (0, 0)) (by (with_reducible repeat (first | refine blk_drewN ?_ _ | refine blk_drew ?_ | refine blk_alloc ?_ _)); exact BK165.out) hb)
                                                  have n3_ := Aside0.mk (below_step (by repeat (first | (with_reducible first | exact HB.out | apply below_alloc | apply pw_below_drewN | apply below_drew1 | refine below_set ?_ GE156.out | refine below_set ?_ GE165.out) | exact HB.out)) hb)
                                                  clear HO_4
                                                  clear BK156
                                                  clear BK165
                                                  clear HB
                                                  have HO_4 := n0_
                                                  have BK156 := n1_
                                                  have BK165 := n2_
                                                  have HB := n3_
                                                  clear n0_ n1_ n2_ n3_
                                                  (try clear hb)
                                                  (try clear hb2)
                                                  (try clear hk)
                                                  (try clear hi)
                                                  refine hK.out _ _ ⟨(blk_cell BK156.out 0).trans rfl, (blk_cell BK156.out 1).trans rfl, (blk_cell BK156.out 2).trans rfl, HS3_, HS4_, HS5_⟩ (fun hHeld => ?_)
                                                  clear hK K
                                                  refine norm_ (a' := ?_) ?_ ?_
                                                  rotate_left
                                                  · show Act.put _ (some 96) _ = _
                                                    simp only [Act.put, List.setIfInBounds_toArray, List.set_cons_zero, List.set_cons_succ, i64_w, i32_w]
                                                    rfl
                                                  exact norm_ (by simp only [putAll, Act.put, List.setIfInBounds_toArray, List.set_cons_zero, List.set_cons_succ]) (hCont (gb165) _ ⟨hHeld, (by (with_reducible repeat (first | apply Kd.R_alloc | apply Kd.R_drewN | apply Kd.R_drew)); exact HO_4.out), (by (with_reducible repeat (first | refine blk_drewN ?_ _ | refine blk_drew ?_ | refine blk_alloc ?_ _)); exact BK156.out), (by (with_reducible repeat (first | refine blk_drewN ?_ _ | refine blk_drew ?_ | refine blk_alloc ?_ _)); exact BK165.out), GW165.out, GE165.out, NB156_165.out, NB165_156.out, (by repeat (first | (with_reducible first | exact HB.out | apply below_alloc | apply pw_below_drewN | apply below_drew1 | refine below_set ?_ GE156.out | refine below_set ?_ GE165.out) | exact HB.out))⟩)
                                              · skip
                                                refine box_step ?hg (N := 8) ?hd (cs := #[.int .i64 0, .int .i64 0]) (t := 33) ?hr ?_; (case hd => rfl); (case hg => rfl); (case hr => first | (go_simp; done) | (go_simp; rfl))
                                                intro gb165 hg w58 hbox hb
                                                have HS3_ := (hb.cell (World.block_lt_of_cell? _ _ (hHeld.2.2.2.1))).trans (hHeld.2.2.2.1)
                                                have HS4_ := (hb.cell (World.block_lt_of_cell? _ _ (hHeld.2.2.2.2.1))).trans (hHeld.2.2.2.2.1)
                                                have HS5_ := (hb.cell (World.block_lt_of_cell? _ _ (hHeld.2.2.2.2.2))).trans (hHeld.2.2.2.2.2)
                                                have n0_ := Aside0.mk (Kd.R_below (by (with_reducible repeat (first | apply Kd.R_alloc | apply Kd.R_drewN | apply Kd.R_drew)); exact HO_4.out) hb)
                                                have n1_ := Aside0.mk (blk_below (g := gb156) (o := .cells #[.int .i64 ((rd_T39 l0 (ji29)).f0), .int .i64 ((rd_T39 l0 (ji29)).f1), .bool ((rd_T39 l0 (ji29)).f2)] 39 (0, 0)) (by (with_reducible repeat (first | refine blk_drewN ?_ _ | refine blk_drew ?_ | refine blk_alloc ?_ _)); exact BK156.out) hb)
                                                have n2_ := Aside0.mk (below_step (by repeat (first | (with_reducible first | exact HB.out | apply below_alloc | apply pw_below_drewN | apply below_drew1 | refine below_set ?_ GE156.out) | exact HB.out)) hb)
                                                have n3_ := Aside0.mk (hbox)
                                                have n4_ := Aside0.mk ((by rw [hg]; exact (below_size (by repeat (first | (with_reducible first | exact HB.out | apply below_alloc | apply pw_below_drewN | apply below_drew1 | refine below_set ?_ GE156.out) | exact HB.out))) : w.heap.size ≤ gb165))
                                                have n5_ := Aside0.mk ((by rw [hg]; exact (below_size (by repeat (first | (with_reducible first | exact HB.out | apply below_alloc | apply pw_below_drewN | apply below_drew1 | refine below_set ?_ GE156.out) | exact HB.out))) : w.heap.size ≤ gb165))
                                                have n6_ := Aside0.mk ((by rw [hg]; exact Nat.ne_of_lt (blk_lt (g := gb156) (o := .cells #[.int .i64 ((rd_T39 l0 (ji29)).f0), .int .i64 ((rd_T39 l0 (ji29)).f1), .bool ((rd_T39 l0 (ji29)).f2)] 39 (0, 0)) (by (with_reducible repeat (first | refine blk_drewN ?_ _ | refine blk_drew ?_ | refine blk_alloc ?_ _)); exact BK156.out)) : gb156 ≠ gb165))
                                                have n7_ := Aside0.mk ((by rw [hg]; exact Nat.ne_of_gt (blk_lt (g := gb156) (o := .cells #[.int .i64 ((rd_T39 l0 (ji29)).f0), .int .i64 ((rd_T39 l0 (ji29)).f1), .bool ((rd_T39 l0 (ji29)).f2)] 39 (0, 0)) (by (with_reducible repeat (first | refine blk_drewN ?_ _ | refine blk_drew ?_ | refine blk_alloc ?_ _)); exact BK156.out)) : gb165 ≠ gb156))
                                                clear HO_4
                                                clear BK156
                                                clear HB
                                                have HO_4 := n0_
                                                have BK156 := n1_
                                                have HB := n2_
                                                have BK165 := n3_
                                                have GW165 := n4_
                                                have GE165 := n5_
                                                have NB156_165 := n6_
                                                have NB165_156 := n7_
                                                clear n0_ n1_ n2_ n3_ n4_ n5_ n6_ n7_
                                                clear hb hbox hg
                                                refine hK.out _ _ ⟨(blk_cell BK156.out 0).trans rfl, (blk_cell BK156.out 1).trans rfl, (blk_cell BK156.out 2).trans rfl, HS3_, HS4_, HS5_⟩ (fun hHeld => ?_)
                                                clear hK K
                                                refine norm_ (a' := ?_) ?_ ?_
                                                rotate_left
                                                · show Act.put _ (some 8) _ = _
                                                  simp only [Act.put, List.setIfInBounds_toArray, List.set_cons_zero, List.set_cons_succ, i64_w, i32_w]
                                                  rfl
                                                refine one_ (i := 6) (N := some 93) #[true, true, true, true, true, true, true, true, false, false, true, false] rfl rfl (one_of HT_.out (by kernel_rfl)) (by decide) (fun K hK => ?_)
                                                refine goes_ Try.func49 (by kernel_rfl) rfl #[.agg #[.int .i64 ((rd_T39 x4_4 (ji48)).f0), .int .i64 ((rd_T39 x4_4 (ji48)).f1), .bool ((rd_T39 x4_4 (ji48)).f2)]] (by rfl) rfl rfl (by (try simp only [List.map_toArray, List.map_cons, List.map_nil]); first | done | (simp only [hji48]; rfl) | rfl | (simp only [List.length_drop, List.length_take]; rfl)) ?_
                                                with_reducible refine (calamusref11_at.calls ((rd_T39 x4_4 (ji48)).f0) ((rd_T39 x4_4 (ji48)).f1) ((rd_T39 x4_4 (ji48)).f2) t159 t160 _ A51.out).mono ?_
                                                rintro e w59 ⟨rfl, hb⟩
                                                have HS3_ := (hb.cell (World.block_lt_of_cell? _ _ (hHeld.2.2.2.1))).trans (hHeld.2.2.2.1)
                                                have HS4_ := (hb.cell (World.block_lt_of_cell? _ _ (hHeld.2.2.2.2.1))).trans (hHeld.2.2.2.2.1)
                                                have HS5_ := (hb.cell (World.block_lt_of_cell? _ _ (hHeld.2.2.2.2.2))).trans (hHeld.2.2.2.2.2)
                                                refine ⟨_, rfl, ?_⟩
                                                have n0_ := Aside0.mk (Kd.R_below (by (with_reducible repeat (first | apply Kd.R_alloc | apply Kd.R_drewN | apply Kd.R_drew)); exact HO_4.out) hb)
                                                have n1_ := Aside0.mk (blk_below (g := gb156) (o := .cells #[.int .i64 ((rd_T39 l0 (ji29)).f0), .int .i64 ((rd_T39 l0 (ji29)).f1), .bool ((rd_T39 l0 (ji29)).f2)] 39 (0, 0)) (by (with_reducible repeat (first | refine blk_drewN ?_ _ | refine blk_drew ?_ | refine blk_alloc ?_ _)); exact BK156.out) hb)
                                                have n2_ := Aside0.mk (blk_below (g := gb165) (o := .cells #[.int .i64 0, .int .i64 0] 33 (0, 0)) (by (with_reducible repeat (first | refine blk_drewN ?_ _ | refine blk_drew ?_ | refine blk_alloc ?_ _)); exact BK165.out) hb)
                                                have n3_ := Aside0.mk (below_step (by repeat (first | (with_reducible first | exact HB.out | apply below_alloc | apply pw_below_drewN | apply below_drew1 | refine below_set ?_ GE156.out | refine below_set ?_ GE165.out) | exact HB.out)) hb)
                                                clear HO_4
                                                clear BK156
                                                clear BK165
                                                clear HB
                                                have HO_4 := n0_
                                                have BK156 := n1_
                                                have BK165 := n2_
                                                have HB := n3_
                                                clear n0_ n1_ n2_ n3_
                                                (try clear hb)
                                                (try clear hb2)
                                                (try clear hk)
                                                (try clear hi)
                                                refine hK.out _ _ ⟨(blk_cell BK156.out 0).trans rfl, (blk_cell BK156.out 1).trans rfl, (blk_cell BK156.out 2).trans rfl, HS3_, HS4_, HS5_⟩ (fun hHeld => ?_)
                                                clear hK K
                                                refine norm_ (a' := ?_) ?_ ?_
                                                rotate_left
                                                · show Act.put _ (some 93) _ = _
                                                  simp only [Act.put, List.setIfInBounds_toArray, List.set_cons_zero, List.set_cons_succ, i64_w, i32_w]
                                                  rfl
                                                refine one_ (i := 8) (N := some 95) #[true, true, true, true, true, true, true, true, true, false, true, false] rfl rfl (one_of HT_.out (by kernel_rfl)) (by decide) (fun K hK => ?_)
                                                refine goes_ Try.func49 (by kernel_rfl) rfl #[.agg #[.int .i64 ((rd_T39 l0 (ji29)).f0), .int .i64 ((rd_T39 l0 (ji29)).f1), .bool ((rd_T39 l0 (ji29)).f2)]] (by rfl) rfl rfl (by (try simp only [List.map_toArray, List.map_cons, List.map_nil]); first | done | (simp only [hji29]; rfl) | rfl | (simp only [List.length_drop, List.length_take]; rfl)) ?_
                                                with_reducible refine (calamusref11_at.calls ((rd_T39 l0 (ji29)).f0) ((rd_T39 l0 (ji29)).f1) ((rd_T39 l0 (ji29)).f2) t161 t162 _ A52.out).mono ?_
                                                rintro e w60 ⟨rfl, hb⟩
                                                have HS3_ := (hb.cell (World.block_lt_of_cell? _ _ (hHeld.2.2.2.1))).trans (hHeld.2.2.2.1)
                                                have HS4_ := (hb.cell (World.block_lt_of_cell? _ _ (hHeld.2.2.2.2.1))).trans (hHeld.2.2.2.2.1)
                                                have HS5_ := (hb.cell (World.block_lt_of_cell? _ _ (hHeld.2.2.2.2.2))).trans (hHeld.2.2.2.2.2)
                                                refine ⟨_, rfl, ?_⟩
                                                have n0_ := Aside0.mk (Kd.R_below (by (with_reducible repeat (first | apply Kd.R_alloc | apply Kd.R_drewN | apply Kd.R_drew)); exact HO_4.out) hb)
                                                have n1_ := Aside0.mk (blk_below (g := gb156) (o := .cells #[.int .i64 ((rd_T39 l0 (ji29)).f0), .int .i64 ((rd_T39 l0 (ji29)).f1), .bool ((rd_T39 l0 (ji29)).f2)] 39 (0, 0)) (by (with_reducible repeat (first | refine blk_drewN ?_ _ | refine blk_drew ?_ | refine blk_alloc ?_ _)); exact BK156.out) hb)
                                                have n2_ := Aside0.mk (blk_below (g := gb165) (o := .cells #[.int .i64 0, .int .i64 0] 33 (0, 0)) (by (with_reducible repeat (first | refine blk_drewN ?_ _ | refine blk_drew ?_ | refine blk_alloc ?_ _)); exact BK165.out) hb)
                                                have n3_ := Aside0.mk (below_step (by repeat (first | (with_reducible first | exact HB.out | apply below_alloc | apply pw_below_drewN | apply below_drew1 | refine below_set ?_ GE156.out | refine below_set ?_ GE165.out) | exact HB.out)) hb)
                                                clear HO_4
                                                clear BK156
                                                clear BK165
                                                clear HB
                                                have HO_4 := n0_
                                                have BK156 := n1_
                                                have BK165 := n2_
                                                have HB := n3_
                                                clear n0_ n1_ n2_ n3_
                                                (try clear hb)
                                                (try clear hb2)
                                                (try clear hk)
                                                (try clear hi)
                                                refine hK.out _ _ ⟨(blk_cell BK156.out 0).trans rfl, (blk_cell BK156.out 1).trans rfl, (blk_cell BK156.out 2).trans rfl, HS3_, HS4_, HS5_⟩ (fun hHeld => ?_)
                                                clear hK K
                                                refine norm_ (a' := ?_) ?_ ?_
                                                rotate_left
                                                · show Act.put _ (some 95) _ = _
                                                  simp only [Act.put, List.setIfInBounds_toArray, List.set_cons_zero, List.set_cons_succ, i64_w, i32_w]
                                                  rfl
                                                refine one_ (i := 9) (N := some 96) #[true, true, true, true, true, true, true, true, true, true, true, false] rfl rfl (one_of HT_.out (by kernel_rfl)) (by decide) (fun K hK => ?_)
                                                refine goes_ Try.func21 (by kernel_rfl) rfl #[.agg #[.int .i64 t159, .int .i64 t160], .agg #[.int .i64 t161, .int .i64 t162]] (by rfl) rfl rfl (by (try simp only [List.map_toArray, List.map_cons, List.map_nil]); first | done | rfl | (simp only [List.length_drop, List.length_take]; rfl)) ?_
                                                with_reducible refine (calamusref11_Mid.calls t159 t160 t161 t162 t163 t164 _ A53.out).mono ?_
                                                rintro e w61 ⟨rfl, hb⟩
                                                have HS3_ := (hb.cell (World.block_lt_of_cell? _ _ (hHeld.2.2.2.1))).trans (hHeld.2.2.2.1)
                                                have HS4_ := (hb.cell (World.block_lt_of_cell? _ _ (hHeld.2.2.2.2.1))).trans (hHeld.2.2.2.2.1)
                                                have HS5_ := (hb.cell (World.block_lt_of_cell? _ _ (hHeld.2.2.2.2.2))).trans (hHeld.2.2.2.2.2)
                                                refine ⟨_, rfl, ?_⟩
                                                have n0_ := Aside0.mk (Kd.R_below (by (with_reducible repeat (first | apply Kd.R_alloc | apply Kd.R_drewN | apply Kd.R_drew)); exact HO_4.out) hb)
                                                have n1_ := Aside0.mk (blk_below (g := gb156) (o := .cells #[.int .i64 ((rd_T39 l0 (ji29)).f0), .int .i64 ((rd_T39 l0 (ji29)).f1), .bool ((rd_T39 l0 (ji29)).f2)] 39 (0, 0)) (by (with_reducible repeat (first | refine blk_drewN ?_ _ | refine blk_drew ?_ | refine blk_alloc ?_ _)); exact BK156.out) hb)
                                                have n2_ := Aside0.mk (blk_below (g := gb165) (o := .cells #[.int .i64 0, .int .i64 0] 33 (0, 0)) (by (with_reducible repeat (first | refine blk_drewN ?_ _ | refine blk_drew ?_ | refine blk_alloc ?_ _)); exact BK165.out) hb)
                                                have n3_ := Aside0.mk (below_step (by repeat (first | (with_reducible first | exact HB.out | apply below_alloc | apply pw_below_drewN | apply below_drew1 | refine below_set ?_ GE156.out | refine below_set ?_ GE165.out) | exact HB.out)) hb)
                                                clear HO_4
                                                clear BK156
                                                clear BK165
                                                clear HB
                                                have HO_4 := n0_
                                                have BK156 := n1_
                                                have BK165 := n2_
                                                have HB := n3_
                                                clear n0_ n1_ n2_ n3_
                                                (try clear hb)
                                                (try clear hb2)
                                                (try clear hk)
                                                (try clear hi)
                                                refine hK.out _ _ ⟨(blk_cell BK156.out 0).trans rfl, (blk_cell BK156.out 1).trans rfl, (blk_cell BK156.out 2).trans rfl, HS3_, HS4_, HS5_⟩ (fun hHeld => ?_)
                                                clear hK K
                                                refine norm_ (a' := ?_) ?_ ?_
                                                rotate_left
                                                · show Act.put _ (some 96) _ = _
                                                  simp only [Act.put, List.setIfInBounds_toArray, List.set_cons_zero, List.set_cons_succ, i64_w, i32_w]
                                                  rfl
                                                exact norm_ (by simp only [putAll, Act.put, List.setIfInBounds_toArray, List.set_cons_zero, List.set_cons_succ]) (hCont (gb165) _ ⟨hHeld, (by (with_reducible repeat (first | apply Kd.R_alloc | apply Kd.R_drewN | apply Kd.R_drew)); exact HO_4.out), (by (with_reducible repeat (first | refine blk_drewN ?_ _ | refine blk_drew ?_ | refine blk_alloc ?_ _)); exact BK156.out), (by (with_reducible repeat (first | refine blk_drewN ?_ _ | refine blk_drew ?_ | refine blk_alloc ?_ _)); exact BK165.out), GW165.out, GE165.out, NB156_165.out, NB165_156.out, (by repeat (first | (with_reducible first | exact HB.out | apply below_alloc | apply pw_below_drewN | apply below_drew1 | refine below_set ?_ GE156.out | refine below_set ?_ GE165.out) | exact HB.out))⟩)
                                            rintro gb165 w62 ⟨hS_, h0_, h1_, h2_, h3_, h4_, h5_, h6_, h7_⟩
                                            have n0_ : Aside0 (Kd.R k39 39 w62 w.heap.size (fun k_ => k_ ≠ gb156) (.slice (some ad158) x4_4.length co57) x4_4) := ⟨h0_⟩
                                            have n1_ : Aside0 (w62.heap[gb156]? = some (.cells #[.int .i64 ((rd_T39 l0 (ji29)).f0), .int .i64 ((rd_T39 l0 (ji29)).f1), .bool ((rd_T39 l0 (ji29)).f2)] 39 (0, 0))) := ⟨h1_⟩
                                            have n2_ : Aside0 (w62.heap[gb165]? = some (.cells #[.int .i64 0, .int .i64 0] 33 (0, 0))) := ⟨h2_⟩
                                            have n3_ : Aside0 (w.heap.size ≤ gb165) := ⟨h3_⟩
                                            have n4_ : Aside0 (w.heap.size ≤ gb165) := ⟨h4_⟩
                                            have n5_ : Aside0 (gb156 ≠ gb165) := ⟨h5_⟩
                                            have n6_ : Aside0 (gb165 ≠ gb156) := ⟨h6_⟩
                                            have n7_ : Aside0 (Below w.heap.size w w62) := ⟨h7_⟩
                                            clear HO_4
                                            clear BK156
                                            clear HB
                                            clear h0_ h1_ h2_ h3_ h4_ h5_ h6_ h7_
                                            have HO_4 := n0_
                                            have BK156 := n1_
                                            have BK165 := n2_
                                            have GW165 := n3_
                                            have GE165 := n4_
                                            have NB156_165 := n5_
                                            have NB165_156 := n6_
                                            have HB := n7_
                                            clear n0_ n1_ n2_ n3_ n4_ n5_ n6_ n7_
                                            have hHeld : w62.cell? ⟨gb156, 0, none⟩ = some (.int .i64 ((rd_T39 l0 (ji29)).f0)) ∧ w62.cell? ⟨gb156, 1, none⟩ = some (.int .i64 ((rd_T39 l0 (ji29)).f1)) ∧ w62.cell? ⟨gb156, 2, none⟩ = some (.bool ((rd_T39 l0 (ji29)).f2)) ∧ w62.cell? (ad158.add (((ji48)).toNat * 3)) = some (.int .i64 ((rd_T39 x4_4 (ji48)).f0)) ∧ w62.cell? ⟨(ad158.add (((ji48)).toNat * 3)).block, (ad158.add (((ji48)).toNat * 3)).off + 1, none⟩ = some (.int .i64 ((rd_T39 x4_4 (ji48)).f1)) ∧ w62.cell? ⟨(ad158.add (((ji48)).toNat * 3)).block, (ad158.add (((ji48)).toNat * 3)).off + 2, none⟩ = some (.bool ((rd_T39 x4_4 (ji48)).f2)) := hS_
                                            refine norm_ (a' := ?_) ?_ ?_
                                            rotate_left
                                            · simp only [putAll, Act.put, List.setIfInBounds_toArray, List.set_cons_zero, List.set_cons_succ]
                                              rfl
                                            refine one_ (i := 11) (N := none) #[true, true, true, true, true, true, true, true, true, true, true, true] rfl rfl (one_of HT_.out (by kernel_rfl)) (by decide) (fun K hK => ?_)
                                            have hs63 : w62.cell? ⟨gb165, 0, none⟩ = some (.int .i64 0) := (blk_cell BK165.out 0).trans rfl
                                            have hfs63 := blk_frozen BK165.out 0
                                            have hns63_0 := NB156_165.out
                                            have hms63_0 := NB165_156.out
                                            have hs64 : w62.cell? ⟨gb165, 1, none⟩ = some (.int .i64 0) := (blk_cell BK165.out 1).trans rfl
                                            have hfs64 := blk_frozen BK165.out 1
                                            have hns64_0 := NB156_165.out
                                            have hms64_0 := NB165_156.out
                                            refine skip_ (w1 := ?_) ?_ ?_ ?_ ?_
                                            rotate_left
                                            · rfl
                                            · rfl
                                            · go_simp
                                              rfl
                                            clear hs63 hfs63 hns63_0 hms63_0 hs64 hfs64 hns64_0 hms64_0
                                            refine hK.out _ _ ⟨((cell_far (p := ⟨gb165, _, none⟩) NB156_165.out _).trans (((cell_far (p := ⟨gb165, _, none⟩) NB156_165.out _).trans (hHeld.1)))), ((cell_far (p := ⟨gb165, _, none⟩) NB156_165.out _).trans (((cell_far (p := ⟨gb165, _, none⟩) NB156_165.out _).trans (hHeld.2.1)))), ((cell_far (p := ⟨gb165, _, none⟩) NB156_165.out _).trans (((cell_far (p := ⟨gb165, _, none⟩) NB156_165.out _).trans (hHeld.2.2.1)))), ((cell_far (p := ⟨gb165, _, none⟩) (by first | exact Kd.own_blk (Kd.R_ne HO_4.out BK165.out (by decide)) | (rw [add_block]; exact Kd.own_blk (Kd.R_ne HO_4.out BK165.out (by decide))) | (show (Addr.add _ _).block ≠ _; rw [add_block]; exact Kd.own_blk (Kd.R_ne HO_4.out BK165.out (by decide))) | (dsimp only; exact Kd.own_blk (Kd.R_ne HO_4.out BK165.out (by decide)))) _).trans (((cell_far (p := ⟨gb165, _, none⟩) (by first | exact Kd.own_blk (Kd.R_ne HO_4.out BK165.out (by decide)) | (rw [add_block]; exact Kd.own_blk (Kd.R_ne HO_4.out BK165.out (by decide))) | (show (Addr.add _ _).block ≠ _; rw [add_block]; exact Kd.own_blk (Kd.R_ne HO_4.out BK165.out (by decide))) | (dsimp only; exact Kd.own_blk (Kd.R_ne HO_4.out BK165.out (by decide)))) _).trans (hHeld.2.2.2.1)))), ((cell_far (p := ⟨gb165, _, none⟩) (by first | exact Kd.own_blk (Kd.R_ne HO_4.out BK165.out (by decide)) | (rw [add_block]; exact Kd.own_blk (Kd.R_ne HO_4.out BK165.out (by decide))) | (show (Addr.add _ _).block ≠ _; rw [add_block]; exact Kd.own_blk (Kd.R_ne HO_4.out BK165.out (by decide))) | (dsimp only; exact Kd.own_blk (Kd.R_ne HO_4.out BK165.out (by decide)))) _).trans (((cell_far (p := ⟨gb165, _, none⟩) (by first | exact Kd.own_blk (Kd.R_ne HO_4.out BK165.out (by decide)) | (rw [add_block]; exact Kd.own_blk (Kd.R_ne HO_4.out BK165.out (by decide))) | (show (Addr.add _ _).block ≠ _; rw [add_block]; exact Kd.own_blk (Kd.R_ne HO_4.out BK165.out (by decide))) | (dsimp only; exact Kd.own_blk (Kd.R_ne HO_4.out BK165.out (by decide)))) _).trans (hHeld.2.2.2.2.1)))), ((cell_far (p := ⟨gb165, _, none⟩) (by first | exact Kd.own_blk (Kd.R_ne HO_4.out BK165.out (by decide)) | (rw [add_block]; exact Kd.own_blk (Kd.R_ne HO_4.out BK165.out (by decide))) | (show (Addr.add _ _).block ≠ _; rw [add_block]; exact Kd.own_blk (Kd.R_ne HO_4.out BK165.out (by decide))) | (dsimp only; exact Kd.own_blk (Kd.R_ne HO_4.out BK165.out (by decide)))) _).trans (((cell_far (p := ⟨gb165, _, none⟩) (by first | exact Kd.own_blk (Kd.R_ne HO_4.out BK165.out (by decide)) | (rw [add_block]; exact Kd.own_blk (Kd.R_ne HO_4.out BK165.out (by decide))) | (show (Addr.add _ _).block ≠ _; rw [add_block]; exact Kd.own_blk (Kd.R_ne HO_4.out BK165.out (by decide))) | (dsimp only; exact Kd.own_blk (Kd.R_ne HO_4.out BK165.out (by decide)))) _).trans (hHeld.2.2.2.2.2))))⟩ (fun hHeld => ?_)
                                            clear hK K
                                            refine done_ (done_of HT_.out (by kernel_rfl)) ?_
                                            have hnb65 := NB165_156.out
                                            have hnc65 := NB156_165.out
                                            have hcz66_0 : w62.cell? ⟨gb165, 0, none⟩ = some (.int .i64 0) := (blk_cell BK165.out 0).trans rfl
                                            have hcz66_1 : w62.cell? ⟨gb165, 1, none⟩ = some (.int .i64 0) := (blk_cell BK165.out 1).trans rfl
                                            have hfz66_0 := blk_frozen BK165.out 0
                                            have hfz66_1 := blk_frozen BK165.out 1
                                            try go_wp2_with (first | ((with_reducible refine gate_builtin (b := .append) (xs := #[.tmp 97, .tmp 103]) rfl ?_); (try (refine gate_guard (by rfl) ?_; dsimp only)); at_builtin; refine Kd.R_append k39 (w0 := w) w.heap.size rfl (.tmp 97) (.tmp 103) 22 39 (.agg #[(.int .i64 0), (.int .i64 0), (.bool false)]) 24 rfl Try.underlying22 info39 rfl (by decide) (by omega) (.slice (some ad158) x4_4.length co57) x4_4 (⟨t163, t164, true⟩ : S39) [.int .i64 t163, .int .i64 t164, .bool true] (fun k_ => k_ ≠ gb156) (fun _ => False) rfl (by first | (go_simp; done) | (go_simp; rfl)) ?aP (fun _ hk => hk.elim) ?aF ?aO ?aB ?aS ?aL ?_; (case aP => exact k39_mkM _ _ _ (⟨t163, t164, true⟩ : S39)); (case aB => exact (by repeat (first | (with_reducible first | exact HB.out | apply below_alloc | apply pw_below_drewN | apply below_drew1 | refine below_set ?_ GE156.out | refine below_set ?_ GE165.out) | exact HB.out))); (case aF => exact (fun k_ hk => Kd.freshB (g := gb156) (o := .cells #[.int .i64 ((rd_T39 l0 (ji29)).f0), .int .i64 ((rd_T39 l0 (ji29)).f1), .bool ((rd_T39 l0 (ji29)).f2)] 39 (0, 0)) (by (with_reducible repeat (first | refine blk_drewN ?_ _ | refine blk_drew ?_ | refine blk_alloc ?_ _)); refine blk_far ?_ NB156_165.out _; (with_reducible repeat (first | refine blk_drewN ?_ _ | refine blk_drew ?_ | refine blk_alloc ?_ _)); refine blk_far ?_ NB156_165.out _; (with_reducible repeat (first | refine blk_drewN ?_ _ | refine blk_drew ?_ | refine blk_alloc ?_ _)); exact BK156.out) k_ hk)); (case aO => exact (by (with_reducible repeat (first | apply Kd.R_alloc | apply Kd.R_drewN | apply Kd.R_drew)); exact Kd.R_mono (Kd.R_far (p := ⟨gb165, 1, none⟩) (Kd.R_far (p := ⟨gb165, 0, none⟩) (Kd.R_types HO_4.out BK165.out (by decide)) (fun _ hk => hk.2) (.int .i64 t163)) (fun _ hk => hk.2) (.int .i64 t164)) (fun _ hk => hk.1))); (case aS => exact (below_size (by repeat (first | (with_reducible first | exact HB.out | apply below_alloc | apply pw_below_drewN | apply below_drew1 | refine below_set ?_ GE156.out | refine below_set ?_ GE165.out) | exact HB.out)))); (case aL => have := LMc54.out; omega); intro v167 w67 ho hb hg hat; rw [← Ny166.out] at ho; have n0_ := Aside0.mk (blk_grown (g := gb156) (o := .cells #[.int .i64 ((rd_T39 l0 (ji29)).f0), .int .i64 ((rd_T39 l0 (ji29)).f1), .bool ((rd_T39 l0 (ji29)).f2)] 39 (0, 0)) (by (with_reducible repeat (first | refine blk_drewN ?_ _ | refine blk_drew ?_ | refine blk_alloc ?_ _)); refine blk_far ?_ NB156_165.out _; (with_reducible repeat (first | refine blk_drewN ?_ _ | refine blk_drew ?_ | refine blk_alloc ?_ _)); refine blk_far ?_ NB156_165.out _; (with_reducible repeat (first | refine blk_drewN ?_ _ | refine blk_drew ?_ | refine blk_alloc ?_ _)); exact BK156.out) hg (Kd.R_away HO_4.out (fun _ hk => hk))); have n1_ := Aside0.mk (blk_grown (g := gb165) (o := .cells #[.int .i64 t163, .int .i64 t164] 33 (0, 0)) (by (with_reducible repeat (first | refine blk_drewN ?_ _ | refine blk_drew ?_ | refine blk_alloc ?_ _)); refine blk_put (cs := #[.int .i64 t163, .int .i64 0]) ?_ 1 _ rfl; (with_reducible repeat (first | refine blk_drewN ?_ _ | refine blk_drew ?_ | refine blk_alloc ?_ _)); refine blk_put (cs := #[.int .i64 0, .int .i64 0]) ?_ 0 _ rfl; (with_reducible repeat (first | refine blk_drewN ?_ _ | refine blk_drew ?_ | refine blk_alloc ?_ _)); exact BK165.out) hg (Kd.R_ne HO_4.out BK165.out (by decide))); have n2_ := Aside0.mk (hb); have n3_ := Aside0.mk (ho); clear BK156; clear BK165; clear HB; clear HO_4; have BK156 := n0_; have BK165 := n1_; have HB := n2_; have HO168 := n3_; clear n0_ n1_ n2_ n3_; clear ho hb hg hat; have hcz68_0 : w67.cell? ⟨gb156, 0, none⟩ = some (.int .i64 ((rd_T39 l0 (ji29)).f0)) := (blk_cell BK156.out 0).trans rfl; have hcz68_1 : w67.cell? ⟨gb156, 1, none⟩ = some (.int .i64 ((rd_T39 l0 (ji29)).f1)) := (blk_cell BK156.out 1).trans rfl; have hcz68_2 : w67.cell? ⟨gb156, 2, none⟩ = some (.bool ((rd_T39 l0 (ji29)).f2)) := (blk_cell BK156.out 2).trans rfl; have hfz68_0 := blk_frozen BK156.out 0; have hfz68_1 := blk_frozen BK156.out 1; have hfz68_2 := blk_frozen BK156.out 2) | ((with_reducible refine gate_builtin (b := .append) (xs := #[.tmp 105, .tmp 107]) rfl ?_); (try (refine gate_guard (by rfl) ?_; dsimp only)); at_builtin; refine Kd.R_append k39 (w0 := w) w.heap.size rfl (.tmp 105) (.tmp 107) 22 39 (.agg #[(.int .i64 0), (.int .i64 0), (.bool false)]) 24 rfl Try.underlying22 info39 rfl (by decide) (by omega) v167 y166 (⟨((rd_T39 l0 (ji29)).f0), ((rd_T39 l0 (ji29)).f1), ((rd_T39 l0 (ji29)).f2)⟩ : S39) [.int .i64 ((rd_T39 l0 (ji29)).f0), .int .i64 ((rd_T39 l0 (ji29)).f1), .bool ((rd_T39 l0 (ji29)).f2)] (fun k_ => k_ ≠ gb156) (fun _ => False) rfl rfl ?aP (fun _ hk => hk.elim) ?aF ?aO ?aB ?aS ?aL ?_; (case aP => exact k39_mkM _ _ _ (⟨((rd_T39 l0 (ji29)).f0), ((rd_T39 l0 (ji29)).f1), ((rd_T39 l0 (ji29)).f2)⟩ : S39)); (case aB => exact (by repeat (first | (with_reducible first | exact HB.out | apply below_alloc | apply pw_below_drewN | apply below_drew1 | refine below_set ?_ GE156.out | refine below_set ?_ GE165.out) | exact HB.out))); (case aF => exact (fun k_ hk => Kd.freshB (g := gb156) (o := .cells #[.int .i64 ((rd_T39 l0 (ji29)).f0), .int .i64 ((rd_T39 l0 (ji29)).f1), .bool ((rd_T39 l0 (ji29)).f2)] 39 (0, 0)) (by (with_reducible repeat (first | refine blk_drewN ?_ _ | refine blk_drew ?_ | refine blk_alloc ?_ _)); exact BK156.out) k_ hk)); (case aO => exact (by (with_reducible repeat (first | apply Kd.R_alloc | apply Kd.R_drewN | apply Kd.R_drew)); exact HO168.out)); (case aS => exact (below_size (by repeat (first | (with_reducible first | exact HB.out | apply below_alloc | apply pw_below_drewN | apply below_drew1 | refine below_set ?_ GE156.out | refine below_set ?_ GE165.out) | exact HB.out)))); (case aL => have := LMc55.out; omega); intro v170 w69 ho hb hg hat; rw [← Ny169.out] at ho; have n0_ := Aside0.mk (blk_grown (g := gb156) (o := .cells #[.int .i64 ((rd_T39 l0 (ji29)).f0), .int .i64 ((rd_T39 l0 (ji29)).f1), .bool ((rd_T39 l0 (ji29)).f2)] 39 (0, 0)) (by (with_reducible repeat (first | refine blk_drewN ?_ _ | refine blk_drew ?_ | refine blk_alloc ?_ _)); exact BK156.out) hg (Kd.R_away HO168.out (fun _ hk => hk))); have n1_ := Aside0.mk (blk_grown (g := gb165) (o := .cells #[.int .i64 t163, .int .i64 t164] 33 (0, 0)) (by (with_reducible repeat (first | refine blk_drewN ?_ _ | refine blk_drew ?_ | refine blk_alloc ?_ _)); exact BK165.out) hg (Kd.R_ne HO168.out BK165.out (by decide))); have n2_ := Aside0.mk (hb); have n3_ := Aside0.mk (ho); clear BK156; clear BK165; clear HB; clear HO168; have BK156 := n0_; have BK165 := n1_; have HB := n2_; have HO171 := n3_; clear n0_ n1_ n2_ n3_; clear ho hb hg hat))
                                            go_roundg kj31
                                            case measure => have := HK1.out; have := HJ2.out; have := HJ6.out; have := HK4.out; have := HJ31.out; omega
                                            case rel => exact ⟨(y169), (wrap64 (x6_4 + 1)), (by first | rfl | (simp; done) | (simp [*]; done)), H', ⟨by have := HK1.out; have := HJ2.out; have := HJ6.out; have := HK4.out; have := HJ31.out; omega⟩, ⟨by (with_reducible repeat (first | apply Kd.R_alloc | apply Kd.R_drewN | apply Kd.R_drew)); exact Kd.R_mono HO171.out (fun _ hk => trivial)⟩, ⟨by repeat (first | (with_reducible first | exact HB.out | apply below_alloc | apply pw_below_drewN | apply below_drew1 | refine below_set ?_ GE156.out | refine below_set ?_ GE165.out) | exact HB.out)⟩⟩
                                          · rw [if_neg c55] at H
                                            exact absurd H (by simp)
                                        · rw [if_neg c54] at H
                                          exact absurd H (by simp)
                                      · rw [if_neg c50] at H
                                        exact absurd H (by simp)
                                    · rw [if_neg c49] at H
                                      exact absurd H (by simp)
                                  · replace c47 := Bool.eq_false_iff.mpr c47
                                    subst c47
                                    have H1 : (if x4_4.length < 5864062014805 then (calamusref11_Segs.l1 kj31 l0 x3_6 (x4_4 ++ [(⟨((rd_T39 l0 (ji29)).f0), ((rd_T39 l0 (ji29)).f1), ((rd_T39 l0 (ji29)).f2)⟩ : S39)]) (wrap64 (x6_4 + 1))) else (none)) = some r := by rw [if_neg (show ¬ (false = true) by decide)] at H; exact H
                                    clear H
                                    have H := H1
                                    clear H1
                                    by_cases c70 : x4_4.length < 5864062014805
                                    · rw [if_pos c70] at H
                                      have LMc70 := Aside0.mk c70
                                      clear c70
                                      obtain ⟨y172, hy172⟩ : ∃ y_ : List (S39), y_ = (x4_4 ++ [(⟨((rd_T39 l0 (ji29)).f0), ((rd_T39 l0 (ji29)).f1), ((rd_T39 l0 (ji29)).f2)⟩ : S39)]) := ⟨_, rfl⟩
                                      replace H : (calamusref11_Segs.l1 kj31 l0 x3_6 y172 (wrap64 (x6_4 + 1))) = some r := by first | (rw [hy172]; with_reducible exact H) | (have H2_ := (Option.bind_some _ _).symm.trans H; rw [hy172]; with_reducible exact H2_) | (have H2_ := (Option.bind_some _ _).symm.trans H; with_reducible exact H2_) | with_reducible exact H | (rw [hy172]; exact H) | exact H
                                      have Ny172 := Aside0.mk hy172
                                      clear hy172
                                      have H' := Aside0.mk H
                                      clear H
                                      have hcz71_0 : wc.cell? ⟨gb156, 0, none⟩ = some (.int .i64 ((rd_T39 l0 (ji29)).f0)) := (blk_cell BK156.out 0).trans rfl
                                      have hcz71_1 : wc.cell? ⟨gb156, 1, none⟩ = some (.int .i64 ((rd_T39 l0 (ji29)).f1)) := (blk_cell BK156.out 1).trans rfl
                                      have hcz71_2 : wc.cell? ⟨gb156, 2, none⟩ = some (.bool ((rd_T39 l0 (ji29)).f2)) := (blk_cell BK156.out 2).trans rfl
                                      have hfz71_0 := blk_frozen BK156.out 0
                                      have hfz71_1 := blk_frozen BK156.out 1
                                      have hfz71_2 := blk_frozen BK156.out 2
                                      go_wp2_with (first | ((with_reducible refine gate_builtin (b := .append) (xs := #[.tmp 105, .tmp 107]) rfl ?_); (try (refine gate_guard (by rfl) ?_; dsimp only)); at_builtin; refine Kd.R_append k39 (w0 := w) w.heap.size rfl (.tmp 105) (.tmp 107) 22 39 (.agg #[(.int .i64 0), (.int .i64 0), (.bool false)]) 24 rfl Try.underlying22 info39 rfl (by decide) (by omega) u4 x4_4 (⟨((rd_T39 l0 (ji29)).f0), ((rd_T39 l0 (ji29)).f1), ((rd_T39 l0 (ji29)).f2)⟩ : S39) [.int .i64 ((rd_T39 l0 (ji29)).f0), .int .i64 ((rd_T39 l0 (ji29)).f1), .bool ((rd_T39 l0 (ji29)).f2)] (fun k_ => k_ ≠ gb156) (fun _ => False) rfl rfl ?aP (fun _ hk => hk.elim) ?aF ?aO ?aB ?aS ?aL ?_; (case aP => exact k39_mkM _ _ _ (⟨((rd_T39 l0 (ji29)).f0), ((rd_T39 l0 (ji29)).f1), ((rd_T39 l0 (ji29)).f2)⟩ : S39)); (case aB => exact (by repeat (first | (with_reducible first | exact HB.out | apply below_alloc | apply pw_below_drewN | apply below_drew1 | refine below_set ?_ GE156.out) | exact HB.out))); (case aF => exact (fun k_ hk => Kd.freshB (g := gb156) (o := .cells #[.int .i64 ((rd_T39 l0 (ji29)).f0), .int .i64 ((rd_T39 l0 (ji29)).f1), .bool ((rd_T39 l0 (ji29)).f2)] 39 (0, 0)) (by (with_reducible repeat (first | refine blk_drewN ?_ _ | refine blk_drew ?_ | refine blk_alloc ?_ _)); exact BK156.out) k_ hk)); (case aO => exact (by (with_reducible repeat (first | apply Kd.R_alloc | apply Kd.R_drewN | apply Kd.R_drew)); exact HO_4.out)); (case aS => exact (below_size (by repeat (first | (with_reducible first | exact HB.out | apply below_alloc | apply pw_below_drewN | apply below_drew1 | refine below_set ?_ GE156.out) | exact HB.out)))); (case aL => have := LMc70.out; omega); intro v173 w72 ho hb hg hat; rw [← Ny172.out] at ho; have n0_ := Aside0.mk (blk_grown (g := gb156) (o := .cells #[.int .i64 ((rd_T39 l0 (ji29)).f0), .int .i64 ((rd_T39 l0 (ji29)).f1), .bool ((rd_T39 l0 (ji29)).f2)] 39 (0, 0)) (by (with_reducible repeat (first | refine blk_drewN ?_ _ | refine blk_drew ?_ | refine blk_alloc ?_ _)); exact BK156.out) hg (Kd.R_away HO_4.out (fun _ hk => hk))); have n1_ := Aside0.mk (hb); have n2_ := Aside0.mk (ho); clear BK156; clear HB; clear HO_4; have BK156 := n0_; have HB := n1_; have HO174 := n2_; clear n0_ n1_ n2_; clear ho hb hg hat))
                                      go_roundg kj31
                                      case measure => have := HK1.out; have := HJ2.out; have := HJ6.out; have := HK4.out; have := HJ31.out; omega
                                      case rel => exact ⟨(y172), (wrap64 (x6_4 + 1)), (by first | rfl | (simp; done) | (simp [*]; done)), H', ⟨by have := HK1.out; have := HJ2.out; have := HJ6.out; have := HK4.out; have := HJ31.out; omega⟩, ⟨by (with_reducible repeat (first | apply Kd.R_alloc | apply Kd.R_drewN | apply Kd.R_drew)); exact Kd.R_mono HO174.out (fun _ hk => trivial)⟩, ⟨by repeat (first | (with_reducible first | exact HB.out | apply below_alloc | apply pw_below_drewN | apply below_drew1 | refine below_set ?_ GE156.out) | exact HB.out)⟩⟩
                                    · rw [if_neg c70] at H
                                      exact absurd H (by simp)
                            · rw [if_neg c31] at H
                              exact absurd H (by simp)
                          · rw [if_neg c30] at H
                            exact absurd H (by simp)
                      · rw [if_neg c27] at H
                        have c27b0 : decide (x6_4 < (l0.length : Int)) = false := decide_eq_false c27
                        clear c27
                        by_cases c73 : 0 < (x4_4.length : Int)
                        · rw [if_pos c73] at H
                          have c73b0 : decide (0 < (x4_4.length : Int)) = true := decide_eq_true c73
                          have c73b1 : decide (0 < x4_4.length) = true := decide_eq_true (by omega)
                          clear c73
                          by_cases c74 : x4_4.length < 5864062014805
                          · rw [if_pos c74] at H
                            have LMc74 := Aside0.mk c74
                            clear c74
                            obtain ⟨y176, hy176⟩ : ∃ y_ : List (S39), y_ = (x4_4 ++ [(⟨(rd_T39 x4_4 0).f0, (rd_T39 x4_4 0).f1, (rd_T39 x4_4 0).f2⟩ : S39)]) := ⟨_, rfl⟩
                            replace H : (if 0 < (y176.length : Int) then ((calamusref11_at.f ((rd_T39 y176 0).f0) ((rd_T39 y176 0).f1) ((rd_T39 y176 0).f2)).bind fun bt180 => (calamusref11_Segs.l2 k4 y176 ([] : List (S37)) 1 bt180.1 bt180.2)) else (none)) = some r := by first | (rw [hy176]; with_reducible exact H) | (have H2_ := (Option.bind_some _ _).symm.trans H; rw [hy176]; with_reducible exact H2_) | (have H2_ := (Option.bind_some _ _).symm.trans H; with_reducible exact H2_) | with_reducible exact H | (rw [hy176]; exact H) | exact H
                            have Ny176 := Aside0.mk hy176
                            clear hy176
                            by_cases c75 : 0 < (y176.length : Int)
                            · rw [if_pos c75] at H
                              have c75b0 : decide (0 < (y176.length : Int)) = true := decide_eq_true c75
                              have c75b1 : decide (0 < y176.length) = true := decide_eq_true (by omega)
                              clear c75
                              replace H := Option.bind_eq_some_iff.mp H
                              obtain ⟨⟨t180, t181⟩, A760, H⟩ := H
                              replace H : (calamusref11_Segs.l2 k4 y176 ([] : List (S37)) 1 t180 t181) = some r := H
                              have A76 := Aside0.mk A760
                              clear A760
                              have H' := Aside0.mk H
                              clear H
                              obtain ⟨Ao77, co77, eo77⟩ := Kd.R_slice HO_4.out
                              subst eo77
                              have p175 : 0 ≤ (0 : Int) := (by omega)
                              have q175 : 0 < (x4_4.length : Int) := of_decide_eq_true (by first | (with_reducible assumption) | assumption)
                              obtain ⟨ad175, e175, hx175_0, hx175_1, hx175_2⟩ := at_T39 (Kd.R_reads' HO_4.out).2.2 0 p175 q175
                              cases e175
                              have qi175 : (0 < x4_4.length) = True := eq_true (by omega)
                              (try rw [show ((0 : Int)).toNat = 0 from rfl] at hx175_0)
                              (try rw [show 0 * 3 = 0 from rfl] at hx175_0)
                              (try rw [Addr.add_zero'] at hx175_0)
                              (try rw [show ((0 : Int)).toNat = 0 from rfl] at hx175_1)
                              (try rw [show 0 * 3 = 0 from rfl] at hx175_1)
                              (try rw [Addr.add_zero'] at hx175_1)
                              (try rw [show ((0 : Int)).toNat = 0 from rfl] at hx175_2)
                              (try rw [show 0 * 3 = 0 from rfl] at hx175_2)
                              (try rw [Addr.add_zero'] at hx175_2)
                              replace p175 := eq_true p175
                              replace q175 := eq_true q175
                              go_wp2_with (first | ((with_reducible refine gate_builtin (b := .append) (xs := #[.tmp 109, .tmp 113]) rfl ?_); (try (refine gate_guard (by rfl) ?_; dsimp only)); at_builtin; refine Kd.R_append k39 (w0 := w) w.heap.size rfl (.tmp 109) (.tmp 113) 22 39 (.agg #[(.int .i64 0), (.int .i64 0), (.bool false)]) 24 rfl Try.underlying22 info39 rfl (by decide) (by omega) (.slice (some ad175) x4_4.length co77) x4_4 (⟨(rd_T39 x4_4 0).f0, (rd_T39 x4_4 0).f1, (rd_T39 x4_4 0).f2⟩ : S39) [.int .i64 ((rd_T39 x4_4 0).f0), .int .i64 ((rd_T39 x4_4 0).f1), .bool ((rd_T39 x4_4 0).f2)] (fun _ => True) (fun _ => False) rfl rfl ?aP (fun _ hk => hk.elim) ?aF ?aO ?aB ?aS ?aL ?_; (case aP => exact k39_mkM _ _ _ (⟨(rd_T39 x4_4 0).f0, (rd_T39 x4_4 0).f1, (rd_T39 x4_4 0).f2⟩ : S39)); (case aB => exact (by repeat (first | (with_reducible first | exact HB.out | apply below_alloc | apply pw_below_drewN | apply below_drew1) | exact HB.out))); (case aF => exact (fun _ _ => trivial)); (case aO => exact (by (with_reducible repeat (first | apply Kd.R_alloc | apply Kd.R_drewN | apply Kd.R_drew)); exact HO_4.out)); (case aS => exact (below_size (by repeat (first | (with_reducible first | exact HB.out | apply below_alloc | apply pw_below_drewN | apply below_drew1) | exact HB.out)))); (case aL => have := LMc74.out; omega); intro v177 w78 ho hb hg hat; rw [← Ny176.out] at ho; have n0_ := Aside0.mk (hb); have n1_ := Aside0.mk (ho); clear HB; clear HO_4; have HB := n0_; have HO178 := n1_; clear n0_ n1_; clear ho hb hg hat; obtain ⟨Ao79, co79, eo79⟩ := Kd.R_slice HO178.out; subst eo79; have p179 : 0 ≤ (0 : Int) := (by omega); have q179 : 0 < (y176.length : Int) := of_decide_eq_true (by first | (with_reducible assumption) | assumption); obtain ⟨ad179, e179, hx179_0, hx179_1, hx179_2⟩ := at_T39 (Kd.R_reads' HO178.out).2.2 0 p179 q179; cases e179; have qi179 : (0 < y176.length) = True := eq_true (by omega); (try rw [show ((0 : Int)).toNat = 0 from rfl] at hx179_0); (try rw [show 0 * 3 = 0 from rfl] at hx179_0); (try rw [Addr.add_zero'] at hx179_0); (try rw [show ((0 : Int)).toNat = 0 from rfl] at hx179_1); (try rw [show 0 * 3 = 0 from rfl] at hx179_1); (try rw [Addr.add_zero'] at hx179_1); (try rw [show ((0 : Int)).toNat = 0 from rfl] at hx179_2); (try rw [show 0 * 3 = 0 from rfl] at hx179_2); (try rw [Addr.add_zero'] at hx179_2); replace p179 := eq_true p179; replace q179 := eq_true q179) | ((with_reducible refine gate_callee (f := 49) rfl ?_); refine goesL_ (some 118) rfl rfl Try.func49 (by kernel_rfl) rfl #[.agg #[.int .i64 ((rd_T39 y176 0).f0), .int .i64 ((rd_T39 y176 0).f1), .bool ((rd_T39 y176 0).f2)]] rfl (by (try simp only [List.map_toArray, List.map_cons, List.map_nil]); first | done | rfl | (simp only [List.length_drop, List.length_take]; rfl)) ?_; (with_reducible refine (calamusref11_at.calls ((rd_T39 y176 0).f0) ((rd_T39 y176 0).f1) ((rd_T39 y176 0).f2) t180 t181 _ A76.out).mono ?_); rintro e w80 ⟨rfl, hb⟩; refine ⟨_, rfl, ?_⟩; have n0_ := Aside0.mk (Kd.R_below (by (with_reducible repeat (first | apply Kd.R_alloc | apply Kd.R_drewN | apply Kd.R_drew)); exact HO178.out) hb); have n1_ := Aside0.mk (below_step (by repeat (first | (with_reducible first | exact HB.out | apply below_alloc | apply pw_below_drewN | apply below_drew1) | exact HB.out)) hb); clear HO178; clear HB; have HO178 := n0_; have HB := n1_; clear n0_ n1_; (try clear hb); (try clear hb2); (try clear hk); (try clear hi)) | ((with_reducible refine gate_dst (N := 10) rfl ?_); (try (refine gate_guard (by rfl) ?_; dsimp only)); refine box_event ?hg (N := 10) ?hd (cs := #[.int .i64 0, .int .i64 0]) (t := 33) ?hr ?_; (case hd => rfl); (case hg => rfl); (case hr => first | (go_simp; done) | (go_simp; rfl)); intro gb182 hg w81 hbox hb; have n0_ := Aside0.mk (Kd.R_below (by (with_reducible repeat (first | apply Kd.R_alloc | apply Kd.R_drewN | apply Kd.R_drew)); exact HO178.out) hb); have n1_ := Aside0.mk (below_step (by repeat (first | (with_reducible first | exact HB.out | apply below_alloc | apply pw_below_drewN | apply below_drew1) | exact HB.out)) hb); have n2_ := Aside0.mk (hbox); have n3_ := Aside0.mk ((by rw [hg]; exact (below_size (by repeat (first | (with_reducible first | exact HB.out | apply below_alloc | apply pw_below_drewN | apply below_drew1) | exact HB.out))) : w.heap.size ≤ gb182)); have n4_ := Aside0.mk ((by rw [hg]; exact (below_size (by repeat (first | (with_reducible first | exact HB.out | apply below_alloc | apply pw_below_drewN | apply below_drew1) | exact HB.out))) : w.heap.size ≤ gb182)); clear HO178; clear HB; have HO178 := n0_; have HB := n1_; have BK182 := n2_; have GW182 := n3_; have GE182 := n4_; clear n0_ n1_ n2_ n3_ n4_; clear hb hbox hg; have hcz82_0 : w81.cell? ⟨gb182, 0, none⟩ = some (.int .i64 0) := (blk_cell BK182.out 0).trans rfl; have hcz82_1 : w81.cell? ⟨gb182, 1, none⟩ = some (.int .i64 0) := (blk_cell BK182.out 1).trans rfl; have hfz82_0 := blk_frozen BK182.out 0; have hfz82_1 := blk_frozen BK182.out 1))
                              go_loopg [9, 11] k4 (fun kq v9 v11 w' => ∃ (x9_5 : List (S37)) (x11_5 : Int) (x183000_5 : Int) (x183001_5 : Int), v11 = .int .i64 x11_5 ∧ Aside0 (calamusref11_Segs.l2 kq y176 x9_5 x11_5 x183000_5 x183001_5 = some r) ∧ Aside0 (kq ≤ k4) ∧ Aside0 (Kd.R k39 39 w' w.heap.size (fun _ => True) (.slice (some ad179) y176.length co79) y176) ∧ Aside0 (Kd.R k37 37 w' w.heap.size (fun _ => True) v9 x9_5) ∧ Aside0 (w'.heap[gb182]? = some (.cells #[.int .i64 x183000_5, .int .i64 x183001_5] 33 (0, 0))) ∧ Aside0 (Below w.heap.size w w'))
                              case atStart => exact ⟨(([] : List (S37))), (1), (t180), (t181), (by first | rfl | (simp; done) | (simp [*]; done)), H', ⟨Nat.le_refl _⟩, ⟨by (with_reducible repeat (first | apply Kd.R_alloc | apply Kd.R_drewN | apply Kd.R_drew)); exact Kd.R_mono (Kd.R_far (p := ⟨gb182, 1, none⟩) (Kd.R_far (p := ⟨gb182, 0, none⟩) (Kd.R_types HO178.out BK182.out (by decide)) (fun _ hk => hk.2) (.int .i64 t180)) (fun _ hk => hk.2) (.int .i64 t181)) (fun _ hk => trivial)⟩, ⟨by first | exact Kd.R_nil _ _ _ _ _ | exact Kd.N_nil _ _ _ _ _ | exact Kd.V_nil _ _ _ _ _ | exact Kd.Q_nil _ _ _ _ _ | exact Kd.S_nil _ _ _ _ _⟩, ⟨by (with_reducible repeat (first | refine blk_drewN ?_ _ | refine blk_drew ?_ | refine blk_alloc ?_ _)); refine blk_put (cs := #[.int .i64 t180, .int .i64 0]) ?_ 1 _ rfl; (with_reducible repeat (first | refine blk_drewN ?_ _ | refine blk_drew ?_ | refine blk_alloc ?_ _)); refine blk_put (cs := #[.int .i64 0, .int .i64 0]) ?_ 0 _ rfl; (with_reducible repeat (first | refine blk_drewN ?_ _ | refine blk_drew ?_ | refine blk_alloc ?_ _)); exact BK182.out⟩, ⟨by repeat (first | (with_reducible first | exact HB.out | apply below_alloc | apply pw_below_drewN | apply below_drew1 | refine below_set ?_ GE182.out) | exact HB.out)⟩⟩
                              case round =>
                                clear H'
                                try clear p1
                                try clear q1
                                try clear hx1
                                try clear qi1
                                try clear c2
                                try clear p2
                                try clear c3
                                try clear c4
                                try clear c5
                                try clear c6
                                try clear p6
                                try clear c7
                                try clear p17
                                try clear q17
                                try clear hx17
                                try clear qi17
                                try clear c21
                                try clear c27
                                try clear c27b0
                                try clear c30
                                try clear c31
                                try clear c47
                                try clear c49
                                try clear c50
                                try clear c54
                                try clear c55
                                try clear p64
                                try clear c65
                                try clear c70
                                try clear c73
                                try clear c73b0
                                try clear c73b1
                                try clear c74
                                try clear c75
                                try clear c75b0
                                try clear c75b1
                                try clear hcz66_0
                                try clear hcz66_1
                                try clear hcz68_0
                                try clear hcz68_1
                                try clear hcz68_2
                                try clear hcz71_0
                                try clear hcz71_1
                                try clear hcz71_2
                                try clear hcz82_0
                                try clear hcz82_1
                                try clear hfz66_0
                                try clear hfz66_1
                                try clear hfz68_0
                                try clear hfz68_1
                                try clear hfz68_2
                                try clear hfz71_0
                                try clear hfz71_1
                                try clear hfz71_2
                                try clear hfz82_0
                                try clear hfz82_1
                                try clear hx175_0
                                try clear hx175_1
                                try clear hx175_2
                                try clear hx179_0
                                try clear hx179_1
                                try clear hx179_2
                                try clear p175
                                try clear p179
                                try clear q175
                                try clear q179
                                obtain ⟨x9_5, x11_5, x183000_5, x183001_5, rfl, HA, HK5, HO_4, HO_9, BK182, HB⟩ := hrel
                                cases gk with
                                | zero => exact absurd HA.out (by simp [calamusref11_Segs.l2])
                                | succ k5 =>
                                  have H := HA.out
                                  clear HA
                                  simp only [calamusref11_Segs.l2] at H
                                  by_cases c83 : x11_5 < (y176.length : Int)
                                  · rw [if_pos c83] at H
                                    have c83b0 : decide (x11_5 < (y176.length : Int)) = true := decide_eq_true c83
                                    clear c83
                                    by_cases c84 : 0 ≤ x11_5
                                    · rw [if_pos c84] at H
                                      have c84b0 : decide (0 ≤ x11_5) = true := decide_eq_true c84
                                      clear c84
                                      have HC85 := Aside0.mk H
                                      clear H
                                      have hcz86_0 : wr.cell? ⟨gb182, 0, none⟩ = some (.int .i64 x183000_5) := (blk_cell BK182.out 0).trans rfl
                                      have hcz86_1 : wr.cell? ⟨gb182, 1, none⟩ = some (.int .i64 x183001_5) := (blk_cell BK182.out 1).trans rfl
                                      have hfz86_0 := blk_frozen BK182.out 0
                                      have hfz86_1 := blk_frozen BK182.out 1
                                      go_upto_if 132 with (first | ((with_reducible refine gate_dst (N := 12) rfl ?_); (try (refine gate_guard (by rfl) ?_; dsimp only)); refine box_event ?hg (N := 12) ?hd (cs := #[.int .i64 0, .int .i64 0, .int .i64 0, .int .i64 0, .int .i64 0, .int .i64 0, .bool false]) (t := 37) ?hr ?_; (case hd => rfl); (case hg => rfl); (case hr => first | (go_simp; done) | (go_simp; rfl)); intro gb183 hg w87 hbox hb; have n0_ := Aside0.mk (Kd.R_below (by (with_reducible repeat (first | apply Kd.R_alloc | apply Kd.R_drewN | apply Kd.R_drew)); exact HO_4.out) hb); have n1_ := Aside0.mk (Kd.R_below (Kd.R_elderB (by (with_reducible repeat (first | apply Kd.R_alloc | apply Kd.R_drewN | apply Kd.R_drew)); exact HO_9.out) gb183 (Nat.le_of_eq hg.symm)) hb); have n2_ := Aside0.mk (blk_below (g := gb182) (o := .cells #[.int .i64 x183000_5, .int .i64 x183001_5] 33 (0, 0)) (by (with_reducible repeat (first | refine blk_drewN ?_ _ | refine blk_drew ?_ | refine blk_alloc ?_ _)); exact BK182.out) hb); have n3_ := Aside0.mk (below_step (by repeat (first | (with_reducible first | exact HB.out | apply below_alloc | apply pw_below_drewN | apply below_drew1 | refine below_set ?_ GE182.out) | exact HB.out)) hb); have n4_ := Aside0.mk (hbox); have n5_ := Aside0.mk ((by rw [hg]; exact (below_size (by repeat (first | (with_reducible first | exact HB.out | apply below_alloc | apply pw_below_drewN | apply below_drew1 | refine below_set ?_ GE182.out) | exact HB.out))) : w.heap.size ≤ gb183)); have n6_ := Aside0.mk ((by rw [hg]; exact (below_size (by repeat (first | (with_reducible first | exact HB.out | apply below_alloc | apply pw_below_drewN | apply below_drew1 | refine below_set ?_ GE182.out) | exact HB.out))) : w.heap.size ≤ gb183)); have n7_ := Aside0.mk ((by rw [hg]; exact Nat.ne_of_lt (blk_lt (g := gb182) (o := .cells #[.int .i64 x183000_5, .int .i64 x183001_5] 33 (0, 0)) (by (with_reducible repeat (first | refine blk_drewN ?_ _ | refine blk_drew ?_ | refine blk_alloc ?_ _)); exact BK182.out)) : gb182 ≠ gb183)); have n8_ := Aside0.mk ((by rw [hg]; exact Nat.ne_of_gt (blk_lt (g := gb182) (o := .cells #[.int .i64 x183000_5, .int .i64 x183001_5] 33 (0, 0)) (by (with_reducible repeat (first | refine blk_drewN ?_ _ | refine blk_drew ?_ | refine blk_alloc ?_ _)); exact BK182.out)) : gb183 ≠ gb182)); clear HO_4; clear HO_9; clear BK182; clear HB; have HO_4 := n0_; have HO_9 := n1_; have BK182 := n2_; have HB := n3_; have BK183 := n4_; have GW183 := n5_; have GE183 := n6_; have NB182_183 := n7_; have NB183_182 := n8_; clear n0_ n1_ n2_ n3_ n4_ n5_ n6_ n7_ n8_; clear hb hbox hg; have hnb88 := NB183_182.out; have hnc88 := NB182_183.out; have hcz89_0 : w87.cell? ⟨gb183, 0, none⟩ = some (.int .i64 0) := (blk_cell BK183.out 0).trans rfl; have hcz89_1 : w87.cell? ⟨gb183, 1, none⟩ = some (.int .i64 0) := (blk_cell BK183.out 1).trans rfl; have hcz89_2 : w87.cell? ⟨gb183, 2, none⟩ = some (.int .i64 0) := (blk_cell BK183.out 2).trans rfl; have hcz89_3 : w87.cell? ⟨gb183, 3, none⟩ = some (.int .i64 0) := (blk_cell BK183.out 3).trans rfl; have hcz89_4 : w87.cell? ⟨gb183, 4, none⟩ = some (.int .i64 0) := (blk_cell BK183.out 4).trans rfl; have hcz89_5 : w87.cell? ⟨gb183, 5, none⟩ = some (.int .i64 0) := (blk_cell BK183.out 5).trans rfl; have hcz89_6 : w87.cell? ⟨gb183, 6, none⟩ = some (.bool false) := (blk_cell BK183.out 6).trans rfl; have hfz89_0 := blk_frozen BK183.out 0; have hfz89_1 := blk_frozen BK183.out 1; have hfz89_2 := blk_frozen BK183.out 2; have hfz89_3 := blk_frozen BK183.out 3; have hfz89_4 := blk_frozen BK183.out 4; have hfz89_5 := blk_frozen BK183.out 5; have hfz89_6 := blk_frozen BK183.out 6) | ((with_reducible refine gate_store (t := 37) (p := 12) rfl ?_); refine store_event (t := 37) (p := 12) (v := ?vo_w90) (w1 := (((((((w87.setCell ⟨gb183, 0, none⟩ (.int .i64 x183000_5)).setCell ⟨gb183, 1, none⟩ (.int .i64 x183001_5)).setCell ⟨gb183, 2, none⟩ (.int .i64 0)).setCell ⟨gb183, 3, none⟩ (.int .i64 0)).setCell ⟨gb183, 4, none⟩ (.int .i64 0)).setCell ⟨gb183, 5, none⟩ (.int .i64 0)).setCell ⟨gb183, 6, none⟩ (.bool false))) ?hg ?ho ?hn ?hr ?_; (case ho => rfl); (case hg => rfl); (case hn => rfl); (case hr => first | (go_simp; done) | (go_simp; rfl)); intro w90 hw; have n0_ : Aside0 (Kd.R k39 39 w90 w.heap.size (fun _ => True) (.slice (some ad179) y176.length co79) y176) := ⟨(by rw [hw]; exact (by (with_reducible repeat (first | apply Kd.R_alloc | apply Kd.R_drewN | apply Kd.R_drew)); exact Kd.R_mono (Kd.R_far (p := ⟨gb183, 6, none⟩) (Kd.R_far (p := ⟨gb183, 5, none⟩) (Kd.R_far (p := ⟨gb183, 4, none⟩) (Kd.R_far (p := ⟨gb183, 3, none⟩) (Kd.R_far (p := ⟨gb183, 2, none⟩) (Kd.R_far (p := ⟨gb183, 1, none⟩) (Kd.R_far (p := ⟨gb183, 0, none⟩) (Kd.R_types HO_4.out BK183.out (by decide)) (fun _ hk => hk.2) (.int .i64 x183000_5)) (fun _ hk => hk.2) (.int .i64 x183001_5)) (fun _ hk => hk.2) (.int .i64 0)) (fun _ hk => hk.2) (.int .i64 0)) (fun _ hk => hk.2) (.int .i64 0)) (fun _ hk => hk.2) (.int .i64 0)) (fun _ hk => hk.2) (.bool false)) (fun _ hk => trivial)))⟩; have n1_ : Aside0 (Kd.R k37 37 w90 w.heap.size (fun k_ => k_ ≠ gb183) u9 x9_5) := ⟨(by rw [hw]; exact (by (with_reducible repeat (first | apply Kd.R_alloc | apply Kd.R_drewN | apply Kd.R_drew)); exact Kd.R_mono (Kd.R_far (p := ⟨gb183, 6, none⟩) (Kd.R_far (p := ⟨gb183, 5, none⟩) (Kd.R_far (p := ⟨gb183, 4, none⟩) (Kd.R_far (p := ⟨gb183, 3, none⟩) (Kd.R_far (p := ⟨gb183, 2, none⟩) (Kd.R_far (p := ⟨gb183, 1, none⟩) (Kd.R_far (p := ⟨gb183, 0, none⟩) (Kd.R_mono HO_9.out (fun k_ hk => (⟨hk, hk.2⟩ : _ ∧ k_ ≠ gb183))) (fun _ hk => hk.2) (.int .i64 x183000_5)) (fun _ hk => hk.2) (.int .i64 x183001_5)) (fun _ hk => hk.2) (.int .i64 0)) (fun _ hk => hk.2) (.int .i64 0)) (fun _ hk => hk.2) (.int .i64 0)) (fun _ hk => hk.2) (.int .i64 0)) (fun _ hk => hk.2) (.bool false)) (fun _ hk => hk.1.2)))⟩; have n2_ : Aside0 (w90.heap[gb182]? = some (.cells #[.int .i64 x183000_5, .int .i64 x183001_5] 33 (0, 0))) := ⟨(by rw [hw]; exact (by (with_reducible repeat (first | refine blk_drewN ?_ _ | refine blk_drew ?_ | refine blk_alloc ?_ _)); refine blk_far ?_ NB182_183.out _; (with_reducible repeat (first | refine blk_drewN ?_ _ | refine blk_drew ?_ | refine blk_alloc ?_ _)); refine blk_far ?_ NB182_183.out _; (with_reducible repeat (first | refine blk_drewN ?_ _ | refine blk_drew ?_ | refine blk_alloc ?_ _)); refine blk_far ?_ NB182_183.out _; (with_reducible repeat (first | refine blk_drewN ?_ _ | refine blk_drew ?_ | refine blk_alloc ?_ _)); refine blk_far ?_ NB182_183.out _; (with_reducible repeat (first | refine blk_drewN ?_ _ | refine blk_drew ?_ | refine blk_alloc ?_ _)); refine blk_far ?_ NB182_183.out _; (with_reducible repeat (first | refine blk_drewN ?_ _ | refine blk_drew ?_ | refine blk_alloc ?_ _)); refine blk_far ?_ NB182_183.out _; (with_reducible repeat (first | refine blk_drewN ?_ _ | refine blk_drew ?_ | refine blk_alloc ?_ _)); refine blk_far ?_ NB182_183.out _; (with_reducible repeat (first | refine blk_drewN ?_ _ | refine blk_drew ?_ | refine blk_alloc ?_ _)); exact BK182.out))⟩; have n3_ : Aside0 (w90.heap[gb183]? = some (.cells #[.int .i64 x183000_5, .int .i64 x183001_5, .int .i64 0, .int .i64 0, .int .i64 0, .int .i64 0, .bool false] 37 (0, 0))) := ⟨(by rw [hw]; exact (by (with_reducible repeat (first | refine blk_drewN ?_ _ | refine blk_drew ?_ | refine blk_alloc ?_ _)); refine blk_put (cs := #[.int .i64 x183000_5, .int .i64 x183001_5, .int .i64 0, .int .i64 0, .int .i64 0, .int .i64 0, .bool false]) ?_ 6 _ rfl; (with_reducible repeat (first | refine blk_drewN ?_ _ | refine blk_drew ?_ | refine blk_alloc ?_ _)); refine blk_put (cs := #[.int .i64 x183000_5, .int .i64 x183001_5, .int .i64 0, .int .i64 0, .int .i64 0, .int .i64 0, .bool false]) ?_ 5 _ rfl; (with_reducible repeat (first | refine blk_drewN ?_ _ | refine blk_drew ?_ | refine blk_alloc ?_ _)); refine blk_put (cs := #[.int .i64 x183000_5, .int .i64 x183001_5, .int .i64 0, .int .i64 0, .int .i64 0, .int .i64 0, .bool false]) ?_ 4 _ rfl; (with_reducible repeat (first | refine blk_drewN ?_ _ | refine blk_drew ?_ | refine blk_alloc ?_ _)); refine blk_put (cs := #[.int .i64 x183000_5, .int .i64 x183001_5, .int .i64 0, .int .i64 0, .int .i64 0, .int .i64 0, .bool false]) ?_ 3 _ rfl; (with_reducible repeat (first | refine blk_drewN ?_ _ | refine blk_drew ?_ | refine blk_alloc ?_ _)); refine blk_put (cs := #[.int .i64 x183000_5, .int .i64 x183001_5, .int .i64 0, .int .i64 0, .int .i64 0, .int .i64 0, .bool false]) ?_ 2 _ rfl; (with_reducible repeat (first | refine blk_drewN ?_ _ | refine blk_drew ?_ | refine blk_alloc ?_ _)); refine blk_put (cs := #[.int .i64 x183000_5, .int .i64 0, .int .i64 0, .int .i64 0, .int .i64 0, .int .i64 0, .bool false]) ?_ 1 _ rfl; (with_reducible repeat (first | refine blk_drewN ?_ _ | refine blk_drew ?_ | refine blk_alloc ?_ _)); refine blk_put (cs := #[.int .i64 0, .int .i64 0, .int .i64 0, .int .i64 0, .int .i64 0, .int .i64 0, .bool false]) ?_ 0 _ rfl; (with_reducible repeat (first | refine blk_drewN ?_ _ | refine blk_drew ?_ | refine blk_alloc ?_ _)); exact BK183.out))⟩; have n4_ : Aside0 (Below w.heap.size w w90) := ⟨(by rw [hw]; exact (by repeat (first | (with_reducible first | exact HB.out | apply below_alloc | apply pw_below_drewN | apply below_drew1 | refine below_set ?_ GE182.out | refine below_set ?_ GE183.out) | exact HB.out)))⟩; clear hw; clear HO_4; clear HO_9; clear BK182; clear BK183; clear HB; have HO_4 := n0_; have HO_9 := n1_; have BK182 := n2_; have BK183 := n3_; have HB := n4_; clear n0_ n1_ n2_ n3_ n4_; have p184 : 0 ≤ (x11_5 : Int) := of_decide_eq_true (by first | (with_reducible assumption) | assumption); have q184 : x11_5 < (y176.length : Int) := of_decide_eq_true (by first | (with_reducible assumption) | assumption); obtain ⟨ad184, e184, hx184_0, hx184_1, hx184_2⟩ := at_T39 (Kd.R_reads' HO_4.out).2.2 x11_5 p184 q184; obtain rfl : ad179 = ad184 := (by injection e184); replace p184 := eq_true p184; replace q184 := eq_true q184))
                                      (try simp only [Act.put, List.setIfInBounds_toArray, List.set_cons_zero, List.set_cons_succ])
                                      go_cut [11] (fun v11 wc => ∃ (kq : Nat) (x11_84 : Int) (x184002_84 : Int) (x184003_84 : Int) (x184006_84 : Bool), v11 = .int .i64 x11_84 ∧ Aside0 (calamusref11_Segs.j6 kq y176 x9_5 x11_84 x183000_5 x183001_5 x184002_84 x184003_84 0 0 x184006_84 = some r) ∧ Aside0 (kq ≤ k5) ∧ Aside0 (Kd.R k39 39 wc w.heap.size (fun _ => True) (.slice (some ad179) y176.length co79) y176) ∧ Aside0 (Kd.R k37 37 wc w.heap.size (fun k_ => k_ ≠ gb183) u9 x9_5) ∧ Aside0 (wc.heap[gb182]? = some (.cells #[.int .i64 x183000_5, .int .i64 x183001_5] 33 (0, 0))) ∧ Aside0 (wc.heap[gb183]? = some (.cells #[.int .i64 x183000_5, .int .i64 x183001_5, .int .i64 x184002_84, .int .i64 x184003_84, .int .i64 0, .int .i64 0, .bool x184006_84] 37 (0, 0))) ∧ Aside0 (Below w.heap.size w wc))
                                      case first =>
                                        have H := HC85.out
                                        clear HC85
                                        obtain ⟨bq91, hbq91⟩ : ∃ b_ : Bool, b_ = ((rd_T39 y176 x11_5).f2) := ⟨_, rfl⟩
                                        replace H : (if (bq91 = true) then (calamusref11_Segs.j6 k5 y176 x9_5 x11_5 x183000_5 x183001_5 0 0 0 0 false) else ((calamusref11_at.f ((rd_T39 y176 x11_5).f0) ((rd_T39 y176 x11_5).f1) (bq91)).bind fun bt186 => (calamusref11_Segs.j6 k5 y176 x9_5 (wrap64 (x11_5 + 1)) x183000_5 x183001_5 bt186.1 bt186.2 0 0 true))) = some r := by rw [← hbq91] at H; exact H
                                        have Nbq91 := Aside0.mk hbq91
                                        clear hbq91
                                        (try rw [← Nbq91.out] at hx184_2)
                                        (try rw [← Nbq91.out])
                                        by_cases c92 : (bq91 = true)
                                        · subst c92
                                          have H1 : (calamusref11_Segs.j6 k5 y176 x9_5 x11_5 x183000_5 x183001_5 0 0 0 0 false) = some r := by rw [if_pos rfl] at H; exact H
                                          clear H
                                          have H := H1
                                          clear H1
                                          have H' := Aside0.mk H
                                          clear H
                                          go_wp2
                                          go_meet
                                          case rel => (try rw [← Nbq91.out]); exact ⟨_, (x11_5), (0), (0), (false), (by first | rfl | (simp; done) | (simp [*]; done)), H', ⟨by have := HK1.out; have := HJ2.out; have := HJ6.out; have := HK4.out; have := HK5.out; first | omega | exact Nat.le_refl _⟩, ⟨by (with_reducible repeat (first | apply Kd.R_alloc | apply Kd.R_drewN | apply Kd.R_drew)); exact HO_4.out⟩, ⟨by (with_reducible repeat (first | apply Kd.R_alloc | apply Kd.R_drewN | apply Kd.R_drew)); exact HO_9.out⟩, ⟨by (with_reducible repeat (first | refine blk_drewN ?_ _ | refine blk_drew ?_ | refine blk_alloc ?_ _)); exact BK182.out⟩, ⟨by (with_reducible repeat (first | refine blk_drewN ?_ _ | refine blk_drew ?_ | refine blk_alloc ?_ _)); exact BK183.out⟩, ⟨by repeat (first | (with_reducible first | exact HB.out | apply below_alloc | apply pw_below_drewN | apply below_drew1 | refine below_set ?_ GE182.out | refine below_set ?_ GE183.out) | exact HB.out)⟩⟩
                                        · replace c92 := Bool.eq_false_iff.mpr c92
                                          subst c92
                                          have H1 : ((calamusref11_at.f ((rd_T39 y176 x11_5).f0) ((rd_T39 y176 x11_5).f1) (false)).bind fun bt186 => (calamusref11_Segs.j6 k5 y176 x9_5 (wrap64 (x11_5 + 1)) x183000_5 x183001_5 bt186.1 bt186.2 0 0 true)) = some r := by rw [if_neg (show ¬ (false = true) by decide)] at H; exact H
                                          clear H
                                          have H := H1
                                          clear H1
                                          replace H := Option.bind_eq_some_iff.mp H
                                          obtain ⟨⟨t186, t187⟩, A930, H⟩ := H
                                          replace H : (calamusref11_Segs.j6 k5 y176 x9_5 (wrap64 (x11_5 + 1)) x183000_5 x183001_5 t186 t187 0 0 true) = some r := H
                                          have A93 := Aside0.mk A930
                                          clear A930
                                          have H' := Aside0.mk H
                                          clear H
                                          have p185 : 0 ≤ (x11_5 : Int) := of_decide_eq_true (by first | (with_reducible assumption) | assumption)
                                          have q185 : x11_5 < (y176.length : Int) := of_decide_eq_true (by first | (with_reducible assumption) | assumption)
                                          obtain ⟨ad185, e185, hx185_0, hx185_1, hx185_2⟩ := at_T39 (Kd.R_reads' HO_4.out).2.2 x11_5 p185 q185
                                          (try rw [← Nbq91.out] at hx185_2)
                                          obtain rfl : ad179 = ad185 := (by injection e185)
                                          replace p185 := eq_true p185
                                          replace q185 := eq_true q185
                                          go_wp2_with (first | ((with_reducible refine gate_callee (f := 49) rfl ?_); refine goesL_ (some 137) rfl rfl Try.func49 (by kernel_rfl) rfl #[.agg #[.int .i64 ((rd_T39 y176 x11_5).f0), .int .i64 ((rd_T39 y176 x11_5).f1), .bool false]] rfl (by (try simp only [List.map_toArray, List.map_cons, List.map_nil]); first | done | rfl | (simp only [List.length_drop, List.length_take]; rfl)) ?_; (with_reducible refine (calamusref11_at.calls ((rd_T39 y176 x11_5).f0) ((rd_T39 y176 x11_5).f1) false t186 t187 _ A93.out).mono ?_); rintro e w94 ⟨rfl, hb⟩; refine ⟨_, rfl, ?_⟩; have n0_ := Aside0.mk (Kd.R_below (by (with_reducible repeat (first | apply Kd.R_alloc | apply Kd.R_drewN | apply Kd.R_drew)); exact HO_4.out) hb); have n1_ := Aside0.mk (Kd.R_below (by (with_reducible repeat (first | apply Kd.R_alloc | apply Kd.R_drewN | apply Kd.R_drew)); exact HO_9.out) hb); have n2_ := Aside0.mk (blk_below (g := gb182) (o := .cells #[.int .i64 x183000_5, .int .i64 x183001_5] 33 (0, 0)) (by (with_reducible repeat (first | refine blk_drewN ?_ _ | refine blk_drew ?_ | refine blk_alloc ?_ _)); exact BK182.out) hb); have n3_ := Aside0.mk (blk_below (g := gb183) (o := .cells #[.int .i64 x183000_5, .int .i64 x183001_5, .int .i64 0, .int .i64 0, .int .i64 0, .int .i64 0, .bool false] 37 (0, 0)) (by (with_reducible repeat (first | refine blk_drewN ?_ _ | refine blk_drew ?_ | refine blk_alloc ?_ _)); exact BK183.out) hb); have n4_ := Aside0.mk (below_step (by repeat (first | (with_reducible first | exact HB.out | apply below_alloc | apply pw_below_drewN | apply below_drew1 | refine below_set ?_ GE182.out | refine below_set ?_ GE183.out) | exact HB.out)) hb); clear HO_4; clear HO_9; clear BK182; clear BK183; clear HB; have HO_4 := n0_; have HO_9 := n1_; have BK182 := n2_; have BK183 := n3_; have HB := n4_; clear n0_ n1_ n2_ n3_ n4_; (try clear hb); (try clear hb2); (try clear hk); (try clear hi); have hnb95 := NB183_182.out; have hnc95 := NB182_183.out; have hcz96_0 : w94.cell? ⟨gb183, 0, none⟩ = some (.int .i64 x183000_5) := (blk_cell BK183.out 0).trans (by first | rfl | ((try rw [← Nbq91.out]); rfl)); have hcz96_1 : w94.cell? ⟨gb183, 1, none⟩ = some (.int .i64 x183001_5) := (blk_cell BK183.out 1).trans (by first | rfl | ((try rw [← Nbq91.out]); rfl)); have hcz96_2 : w94.cell? ⟨gb183, 2, none⟩ = some (.int .i64 0) := (blk_cell BK183.out 2).trans (by first | rfl | ((try rw [← Nbq91.out]); rfl)); have hcz96_3 : w94.cell? ⟨gb183, 3, none⟩ = some (.int .i64 0) := (blk_cell BK183.out 3).trans (by first | rfl | ((try rw [← Nbq91.out]); rfl)); have hcz96_4 : w94.cell? ⟨gb183, 4, none⟩ = some (.int .i64 0) := (blk_cell BK183.out 4).trans (by first | rfl | ((try rw [← Nbq91.out]); rfl)); have hcz96_5 : w94.cell? ⟨gb183, 5, none⟩ = some (.int .i64 0) := (blk_cell BK183.out 5).trans (by first | rfl | ((try rw [← Nbq91.out]); rfl)); have hcz96_6 : w94.cell? ⟨gb183, 6, none⟩ = some (.bool false) := (blk_cell BK183.out 6).trans (by first | rfl | ((try rw [← Nbq91.out]); rfl)); have hfz96_0 := blk_frozen BK183.out 0; have hfz96_1 := blk_frozen BK183.out 1; have hfz96_2 := blk_frozen BK183.out 2; have hfz96_3 := blk_frozen BK183.out 3; have hfz96_4 := blk_frozen BK183.out 4; have hfz96_5 := blk_frozen BK183.out 5; have hfz96_6 := blk_frozen BK183.out 6) | ((with_reducible refine gate_store (t := 4) (p := 139) rfl ?_); refine store_event (t := 4) (p := 139) (v := ?vo_w97) (w1 := (((w94.setCell ⟨gb183, 2, none⟩ (.int .i64 t186)).setCell ⟨gb183, 3, none⟩ (.int .i64 t187)).setCell ⟨gb183, 6, none⟩ (.bool true))) ?hg ?ho ?hn ?hr ?_; (case ho => rfl); (case hg => rfl); (case hn => rfl); (case hr => first | (go_simp; done) | (go_simp; rfl)); intro w97 hw; have n0_ : Aside0 (Kd.R k39 39 w97 w.heap.size (fun _ => True) (.slice (some ad179) y176.length co79) y176) := ⟨(by rw [hw]; exact (by (with_reducible repeat (first | apply Kd.R_alloc | apply Kd.R_drewN | apply Kd.R_drew)); exact Kd.R_mono (Kd.R_far (p := ⟨gb183, 6, none⟩) (Kd.R_far (p := ⟨gb183, 3, none⟩) (Kd.R_far (p := ⟨gb183, 2, none⟩) (Kd.R_types HO_4.out BK183.out (by decide)) (fun _ hk => hk.2) (.int .i64 t186)) (fun _ hk => hk.2) (.int .i64 t187)) (fun _ hk => hk.2) (.bool true)) (fun _ hk => trivial)))⟩; have n1_ : Aside0 (Kd.R k37 37 w97 w.heap.size (fun k_ => k_ ≠ gb183) u9 x9_5) := ⟨(by rw [hw]; exact (by (with_reducible repeat (first | apply Kd.R_alloc | apply Kd.R_drewN | apply Kd.R_drew)); exact Kd.R_mono (Kd.R_far (p := ⟨gb183, 6, none⟩) (Kd.R_far (p := ⟨gb183, 3, none⟩) (Kd.R_far (p := ⟨gb183, 2, none⟩) (Kd.R_mono HO_9.out (fun k_ hk => (⟨hk, hk⟩ : _ ∧ k_ ≠ gb183))) (fun _ hk => hk.2) (.int .i64 t186)) (fun _ hk => hk.2) (.int .i64 t187)) (fun _ hk => hk.2) (.bool true)) (fun _ hk => hk.1)))⟩; have n2_ : Aside0 (w97.heap[gb182]? = some (.cells #[.int .i64 x183000_5, .int .i64 x183001_5] 33 (0, 0))) := ⟨(by rw [hw]; exact (by (with_reducible repeat (first | refine blk_drewN ?_ _ | refine blk_drew ?_ | refine blk_alloc ?_ _)); refine blk_far ?_ NB182_183.out _; (with_reducible repeat (first | refine blk_drewN ?_ _ | refine blk_drew ?_ | refine blk_alloc ?_ _)); refine blk_far ?_ NB182_183.out _; (with_reducible repeat (first | refine blk_drewN ?_ _ | refine blk_drew ?_ | refine blk_alloc ?_ _)); refine blk_far ?_ NB182_183.out _; (with_reducible repeat (first | refine blk_drewN ?_ _ | refine blk_drew ?_ | refine blk_alloc ?_ _)); exact BK182.out))⟩; have n3_ : Aside0 (w97.heap[gb183]? = some (.cells #[.int .i64 x183000_5, .int .i64 x183001_5, .int .i64 t186, .int .i64 t187, .int .i64 0, .int .i64 0, .bool true] 37 (0, 0))) := ⟨(by rw [hw]; exact (by (with_reducible repeat (first | refine blk_drewN ?_ _ | refine blk_drew ?_ | refine blk_alloc ?_ _)); refine blk_put (cs := #[.int .i64 x183000_5, .int .i64 x183001_5, .int .i64 t186, .int .i64 t187, .int .i64 0, .int .i64 0, .bool false]) ?_ 6 _ rfl; (with_reducible repeat (first | refine blk_drewN ?_ _ | refine blk_drew ?_ | refine blk_alloc ?_ _)); refine blk_put (cs := #[.int .i64 x183000_5, .int .i64 x183001_5, .int .i64 t186, .int .i64 0, .int .i64 0, .int .i64 0, .bool false]) ?_ 3 _ rfl; (with_reducible repeat (first | refine blk_drewN ?_ _ | refine blk_drew ?_ | refine blk_alloc ?_ _)); refine blk_put (cs := #[.int .i64 x183000_5, .int .i64 x183001_5, .int .i64 0, .int .i64 0, .int .i64 0, .int .i64 0, .bool false]) ?_ 2 _ rfl; (with_reducible repeat (first | refine blk_drewN ?_ _ | refine blk_drew ?_ | refine blk_alloc ?_ _)); exact BK183.out))⟩; have n4_ : Aside0 (Below w.heap.size w w97) := ⟨(by rw [hw]; exact (by repeat (first | (with_reducible first | exact HB.out | apply below_alloc | apply pw_below_drewN | apply below_drew1 | refine below_set ?_ GE182.out | refine below_set ?_ GE183.out) | exact HB.out)))⟩; clear hw; clear HO_4; clear HO_9; clear BK182; clear BK183; clear HB; have HO_4 := n0_; have HO_9 := n1_; have BK182 := n2_; have BK183 := n3_; have HB := n4_; clear n0_ n1_ n2_ n3_ n4_))
                                          go_meet
                                          case rel => (try rw [← Nbq91.out]); exact ⟨_, (wrap64 (x11_5 + 1)), (t186), (t187), (true), (by first | rfl | (simp; done) | (simp [*]; done)), H', ⟨by have := HK1.out; have := HJ2.out; have := HJ6.out; have := HK4.out; have := HK5.out; first | omega | exact Nat.le_refl _⟩, ⟨by (with_reducible repeat (first | apply Kd.R_alloc | apply Kd.R_drewN | apply Kd.R_drew)); exact HO_4.out⟩, ⟨by (with_reducible repeat (first | apply Kd.R_alloc | apply Kd.R_drewN | apply Kd.R_drew)); exact HO_9.out⟩, ⟨by (with_reducible repeat (first | refine blk_drewN ?_ _ | refine blk_drew ?_ | refine blk_alloc ?_ _)); exact BK182.out⟩, ⟨by (with_reducible repeat (first | refine blk_drewN ?_ _ | refine blk_drew ?_ | refine blk_alloc ?_ _)); exact BK183.out⟩, ⟨by repeat (first | (with_reducible first | exact HB.out | apply below_alloc | apply pw_below_drewN | apply below_drew1 | refine below_set ?_ GE182.out | refine below_set ?_ GE183.out) | exact HB.out)⟩⟩
                                      case rest =>
                                        clear HC85
                                        try clear p1
                                        try clear q1
                                        try clear hx1
                                        try clear qi1
                                        try clear c2
                                        try clear p2
                                        try clear c3
                                        try clear c4
                                        try clear c5
                                        try clear c6
                                        try clear p6
                                        try clear c7
                                        try clear c8
                                        try clear c9
                                        try clear q9
                                        try clear p17
                                        try clear q17
                                        try clear hx17
                                        try clear qi17
                                        try clear p18
                                        try clear q18
                                        try clear hx18
                                        try clear c21
                                        try clear c27
                                        try clear c27b0
                                        try clear c30
                                        try clear c31
                                        try clear c47
                                        try clear c49
                                        try clear c50
                                        try clear c54
                                        try clear c55
                                        try clear p64
                                        try clear c65
                                        try clear c70
                                        try clear c73
                                        try clear c73b0
                                        try clear c73b1
                                        try clear c74
                                        try clear c75
                                        try clear c75b0
                                        try clear c75b1
                                        try clear c83
                                        try clear c83b0
                                        try clear c84
                                        try clear c84b0
                                        try clear c88
                                        try clear q91
                                        try clear c92
                                        try clear c95
                                        try clear hcz66_0
                                        try clear hcz66_1
                                        try clear hcz68_0
                                        try clear hcz68_1
                                        try clear hcz68_2
                                        try clear hcz71_0
                                        try clear hcz71_1
                                        try clear hcz71_2
                                        try clear hcz82_0
                                        try clear hcz82_1
                                        try clear hcz86_0
                                        try clear hcz86_1
                                        try clear hcz89_0
                                        try clear hcz89_1
                                        try clear hcz89_2
                                        try clear hcz89_3
                                        try clear hcz89_4
                                        try clear hcz89_5
                                        try clear hcz89_6
                                        try clear hcz96_0
                                        try clear hcz96_1
                                        try clear hcz96_2
                                        try clear hcz96_3
                                        try clear hcz96_4
                                        try clear hcz96_5
                                        try clear hcz96_6
                                        try clear hfz66_0
                                        try clear hfz66_1
                                        try clear hfz68_0
                                        try clear hfz68_1
                                        try clear hfz68_2
                                        try clear hfz71_0
                                        try clear hfz71_1
                                        try clear hfz71_2
                                        try clear hfz82_0
                                        try clear hfz82_1
                                        try clear hfz86_0
                                        try clear hfz86_1
                                        try clear hfz89_0
                                        try clear hfz89_1
                                        try clear hfz89_2
                                        try clear hfz89_3
                                        try clear hfz89_4
                                        try clear hfz89_5
                                        try clear hfz89_6
                                        try clear hfz96_0
                                        try clear hfz96_1
                                        try clear hfz96_2
                                        try clear hfz96_3
                                        try clear hfz96_4
                                        try clear hfz96_5
                                        try clear hfz96_6
                                        try clear hx175_0
                                        try clear hx175_1
                                        try clear hx175_2
                                        try clear hx179_0
                                        try clear hx179_1
                                        try clear hx179_2
                                        try clear hx184_0
                                        try clear hx184_1
                                        try clear hx184_2
                                        try clear hx185_0
                                        try clear hx185_1
                                        try clear hx185_2
                                        try clear p1
                                        try clear p17
                                        try clear p175
                                        try clear p179
                                        try clear p184
                                        try clear p185
                                        try clear p2
                                        try clear p6
                                        try clear p64
                                        try clear q1
                                        try clear q17
                                        try clear q175
                                        try clear q179
                                        try clear q184
                                        try clear q185
                                        obtain ⟨kq, x11_84, x184002_84, x184003_84, x184006_84, rfl, HA, HJ84, HO_4, HO_9, BK182, BK183, HB⟩ := hcut
                                        cases kq with
                                        | zero => exact absurd HA.out (by simp [calamusref11_Segs.j6])
                                        | succ kj84 =>
                                          have H := HA.out
                                          clear HA
                                          simp only [calamusref11_Segs.j6] at H
                                          by_cases c98 : 0 ≤ x11_84
                                          · rw [if_pos c98] at H
                                            have c98b0 : decide (0 ≤ x11_84) = true := decide_eq_true c98
                                            clear c98
                                            by_cases c99 : x11_84 < (y176.length : Int)
                                            · rw [if_pos c99] at H
                                              have c99b0 : decide (x11_84 < (y176.length : Int)) = true := decide_eq_true c99
                                              clear c99
                                              replace H := Option.bind_eq_some_iff.mp H
                                              obtain ⟨⟨t189, t190⟩, A1000, H⟩ := H
                                              replace H : (if (!(x183000_5 == t189) || (!(x183001_5 == t190))) = true then (calamusref11_Segs.j7 kj84 y176 x9_5 x11_84 true t189 t190 x183000_5 x183001_5 x184002_84 x184003_84 t189 t190 x184006_84) else (if x184006_84 = true then (calamusref11_Segs.j7 kj84 y176 x9_5 x11_84 (!(x184002_84 == x183000_5) || (!(x184003_84 == x183001_5))) t189 t190 x183000_5 x183001_5 x184002_84 x184003_84 t189 t190 x184006_84) else (calamusref11_Segs.j7 kj84 y176 x9_5 x11_84 false t189 t190 x183000_5 x183001_5 x184002_84 x184003_84 t189 t190 x184006_84))) = some r := H
                                              have A100 := Aside0.mk A1000
                                              clear A1000
                                              have HC101 := Aside0.mk H
                                              clear H
                                              have p188 : 0 ≤ (x11_84 : Int) := of_decide_eq_true (by first | (with_reducible assumption) | assumption)
                                              have q188 : x11_84 < (y176.length : Int) := of_decide_eq_true (by first | (with_reducible assumption) | assumption)
                                              obtain ⟨ad188, e188, hx188_0, hx188_1, hx188_2⟩ := at_T39 (Kd.R_reads' HO_4.out).2.2 x11_84 p188 q188
                                              obtain rfl : ad179 = ad188 := (by injection e188)
                                              replace p188 := eq_true p188
                                              replace q188 := eq_true q188
                                              go_upto_region 31 with (first | ((with_reducible refine gate_callee (f := 49) rfl ?_); refine goesL_ (some 146) rfl rfl Try.func49 (by kernel_rfl) rfl #[.agg #[.int .i64 ((rd_T39 y176 x11_84).f0), .int .i64 ((rd_T39 y176 x11_84).f1), .bool ((rd_T39 y176 x11_84).f2)]] rfl (by (try simp only [List.map_toArray, List.map_cons, List.map_nil]); first | done | rfl | (simp only [List.length_drop, List.length_take]; rfl)) ?_; (with_reducible refine (calamusref11_at.calls ((rd_T39 y176 x11_84).f0) ((rd_T39 y176 x11_84).f1) ((rd_T39 y176 x11_84).f2) t189 t190 _ A100.out).mono ?_); rintro e w102 ⟨rfl, hb⟩; refine ⟨_, rfl, ?_⟩; have n0_ := Aside0.mk (Kd.R_below (by (with_reducible repeat (first | apply Kd.R_alloc | apply Kd.R_drewN | apply Kd.R_drew)); exact HO_4.out) hb); have n1_ := Aside0.mk (Kd.R_below (by (with_reducible repeat (first | apply Kd.R_alloc | apply Kd.R_drewN | apply Kd.R_drew)); exact HO_9.out) hb); have n2_ := Aside0.mk (blk_below (g := gb182) (o := .cells #[.int .i64 x183000_5, .int .i64 x183001_5] 33 (0, 0)) (by (with_reducible repeat (first | refine blk_drewN ?_ _ | refine blk_drew ?_ | refine blk_alloc ?_ _)); exact BK182.out) hb); have n3_ := Aside0.mk (blk_below (g := gb183) (o := .cells #[.int .i64 x183000_5, .int .i64 x183001_5, .int .i64 x184002_84, .int .i64 x184003_84, .int .i64 0, .int .i64 0, .bool x184006_84] 37 (0, 0)) (by (with_reducible repeat (first | refine blk_drewN ?_ _ | refine blk_drew ?_ | refine blk_alloc ?_ _)); exact BK183.out) hb); have n4_ := Aside0.mk (below_step (by repeat (first | (with_reducible first | exact HB.out | apply below_alloc | apply pw_below_drewN | apply below_drew1 | refine below_set ?_ GE182.out | refine below_set ?_ GE183.out) | exact HB.out)) hb); clear HO_4; clear HO_9; clear BK182; clear BK183; clear HB; have HO_4 := n0_; have HO_9 := n1_; have BK182 := n2_; have BK183 := n3_; have HB := n4_; clear n0_ n1_ n2_ n3_ n4_; (try clear hb); (try clear hb2); (try clear hk); (try clear hi); have hnb103 := NB183_182.out; have hnc103 := NB182_183.out; have hcz104_0 : w102.cell? ⟨gb183, 0, none⟩ = some (.int .i64 x183000_5) := (blk_cell BK183.out 0).trans rfl; have hcz104_1 : w102.cell? ⟨gb183, 1, none⟩ = some (.int .i64 x183001_5) := (blk_cell BK183.out 1).trans rfl; have hcz104_2 : w102.cell? ⟨gb183, 2, none⟩ = some (.int .i64 x184002_84) := (blk_cell BK183.out 2).trans rfl; have hcz104_3 : w102.cell? ⟨gb183, 3, none⟩ = some (.int .i64 x184003_84) := (blk_cell BK183.out 3).trans rfl; have hcz104_4 : w102.cell? ⟨gb183, 4, none⟩ = some (.int .i64 0) := (blk_cell BK183.out 4).trans rfl; have hcz104_5 : w102.cell? ⟨gb183, 5, none⟩ = some (.int .i64 0) := (blk_cell BK183.out 5).trans rfl; have hcz104_6 : w102.cell? ⟨gb183, 6, none⟩ = some (.bool x184006_84) := (blk_cell BK183.out 6).trans rfl; have hfz104_0 := blk_frozen BK183.out 0; have hfz104_1 := blk_frozen BK183.out 1; have hfz104_2 := blk_frozen BK183.out 2; have hfz104_3 := blk_frozen BK183.out 3; have hfz104_4 := blk_frozen BK183.out 4; have hfz104_5 := blk_frozen BK183.out 5; have hfz104_6 := blk_frozen BK183.out 6; have hcz105_0 : w102.cell? ⟨gb182, 0, none⟩ = some (.int .i64 x183000_5) := (blk_cell BK182.out 0).trans rfl; have hcz105_1 : w102.cell? ⟨gb182, 1, none⟩ = some (.int .i64 x183001_5) := (blk_cell BK182.out 1).trans rfl; have hfz105_0 := blk_frozen BK182.out 0; have hfz105_1 := blk_frozen BK182.out 1) | ((with_reducible refine gate_store (t := 33) (p := 10) rfl ?_); refine store_event (t := 33) (p := 10) (v := ?vo_w106) (w1 := ((((w102.setCell ⟨gb183, 4, none⟩ (.int .i64 t189)).setCell ⟨gb183, 5, none⟩ (.int .i64 t190)).setCell ⟨gb182, 0, none⟩ (.int .i64 t189)).setCell ⟨gb182, 1, none⟩ (.int .i64 t190))) ?hg ?ho ?hn ?hr ?_; (case ho => rfl); (case hg => rfl); (case hn => rfl); (case hr => first | (go_simp; done) | (go_simp; rfl)); intro w106 hw; have n0_ : Aside0 (Kd.R k39 39 w106 w.heap.size (fun _ => True) (.slice (some ad179) y176.length co79) y176) := ⟨(by rw [hw]; exact (by (with_reducible repeat (first | apply Kd.R_alloc | apply Kd.R_drewN | apply Kd.R_drew)); exact Kd.R_mono (Kd.R_far (p := ⟨gb182, 1, none⟩) (Kd.R_far (p := ⟨gb182, 0, none⟩) (Kd.R_far (p := ⟨gb183, 5, none⟩) (Kd.R_far (p := ⟨gb183, 4, none⟩) (Kd.R_types (Kd.R_types HO_4.out BK183.out (by decide)) BK182.out (by decide)) (fun _ hk => hk.1.2) (.int .i64 t189)) (fun _ hk => hk.1.2) (.int .i64 t190)) (fun _ hk => hk.2) (.int .i64 t189)) (fun _ hk => hk.2) (.int .i64 t190)) (fun _ hk => trivial)))⟩; have n1_ : Aside0 (Kd.R k37 37 w106 w.heap.size (fun k_ => k_ ≠ gb183) u9 x9_5) := ⟨(by rw [hw]; exact (by (with_reducible repeat (first | apply Kd.R_alloc | apply Kd.R_drewN | apply Kd.R_drew)); exact Kd.R_mono (Kd.R_far (p := ⟨gb182, 1, none⟩) (Kd.R_far (p := ⟨gb182, 0, none⟩) (Kd.R_far (p := ⟨gb183, 5, none⟩) (Kd.R_far (p := ⟨gb183, 4, none⟩) (Kd.R_types (Kd.R_mono HO_9.out (fun k_ hk => (⟨hk, hk⟩ : _ ∧ k_ ≠ gb183))) BK182.out (by decide)) (fun _ hk => hk.1.2) (.int .i64 t189)) (fun _ hk => hk.1.2) (.int .i64 t190)) (fun _ hk => hk.2) (.int .i64 t189)) (fun _ hk => hk.2) (.int .i64 t190)) (fun _ hk => hk.1.1)))⟩; have n2_ : Aside0 (w106.heap[gb182]? = some (.cells #[.int .i64 t189, .int .i64 t190] 33 (0, 0))) := ⟨(by rw [hw]; exact (by (with_reducible repeat (first | refine blk_drewN ?_ _ | refine blk_drew ?_ | refine blk_alloc ?_ _)); refine blk_put (cs := #[.int .i64 t189, .int .i64 x183001_5]) ?_ 1 _ rfl; (with_reducible repeat (first | refine blk_drewN ?_ _ | refine blk_drew ?_ | refine blk_alloc ?_ _)); refine blk_put (cs := #[.int .i64 x183000_5, .int .i64 x183001_5]) ?_ 0 _ rfl; (with_reducible repeat (first | refine blk_drewN ?_ _ | refine blk_drew ?_ | refine blk_alloc ?_ _)); refine blk_far ?_ NB182_183.out _; (with_reducible repeat (first | refine blk_drewN ?_ _ | refine blk_drew ?_ | refine blk_alloc ?_ _)); refine blk_far ?_ NB182_183.out _; (with_reducible repeat (first | refine blk_drewN ?_ _ | refine blk_drew ?_ | refine blk_alloc ?_ _)); exact BK182.out))⟩; have n3_ : Aside0 (w106.heap[gb183]? = some (.cells #[.int .i64 x183000_5, .int .i64 x183001_5, .int .i64 x184002_84, .int .i64 x184003_84, .int .i64 t189, .int .i64 t190, .bool x184006_84] 37 (0, 0))) := ⟨(by rw [hw]; exact (by (with_reducible repeat (first | refine blk_drewN ?_ _ | refine blk_drew ?_ | refine blk_alloc ?_ _)); refine blk_far ?_ NB183_182.out _; (with_reducible repeat (first | refine blk_drewN ?_ _ | refine blk_drew ?_ | refine blk_alloc ?_ _)); refine blk_far ?_ NB183_182.out _; (with_reducible repeat (first | refine blk_drewN ?_ _ | refine blk_drew ?_ | refine blk_alloc ?_ _)); refine blk_put (cs := #[.int .i64 x183000_5, .int .i64 x183001_5, .int .i64 x184002_84, .int .i64 x184003_84, .int .i64 t189, .int .i64 0, .bool x184006_84]) ?_ 5 _ rfl; (with_reducible repeat (first | refine blk_drewN ?_ _ | refine blk_drew ?_ | refine blk_alloc ?_ _)); refine blk_put (cs := #[.int .i64 x183000_5, .int .i64 x183001_5, .int .i64 x184002_84, .int .i64 x184003_84, .int .i64 0, .int .i64 0, .bool x184006_84]) ?_ 4 _ rfl; (with_reducible repeat (first | refine blk_drewN ?_ _ | refine blk_drew ?_ | refine blk_alloc ?_ _)); exact BK183.out))⟩; have n4_ : Aside0 (Below w.heap.size w w106) := ⟨(by rw [hw]; exact (by repeat (first | (with_reducible first | exact HB.out | apply below_alloc | apply pw_below_drewN | apply below_drew1 | refine below_set ?_ GE182.out | refine below_set ?_ GE183.out) | exact HB.out)))⟩; clear hw; clear HO_4; clear HO_9; clear BK182; clear BK183; clear HB; have HO_4 := n0_; have HO_9 := n1_; have BK182 := n2_; have BK183 := n3_; have HB := n4_; clear n0_ n1_ n2_ n3_ n4_))
                                              (try simp only [Act.put, List.setIfInBounds_toArray, List.set_cons_zero, List.set_cons_succ])
                                              go_cut [165] (fun v165 wc => ∃ (kq : Nat) (x165_100 : Bool), v165 = .bool x165_100 ∧ Aside0 (calamusref11_Segs.j7 kq y176 x9_5 x11_84 x165_100 t189 t190 x183000_5 x183001_5 x184002_84 x184003_84 t189 t190 x184006_84 = some r) ∧ Aside0 (kq ≤ kj84) ∧ Aside0 (Kd.R k39 39 wc w.heap.size (fun _ => True) (.slice (some ad179) y176.length co79) y176) ∧ Aside0 (Kd.R k37 37 wc w.heap.size (fun k_ => k_ ≠ gb183) u9 x9_5) ∧ Aside0 (wc.heap[gb182]? = some (.cells #[.int .i64 t189, .int .i64 t190] 33 (0, 0))) ∧ Aside0 (wc.heap[gb183]? = some (.cells #[.int .i64 x183000_5, .int .i64 x183001_5, .int .i64 x184002_84, .int .i64 x184003_84, .int .i64 t189, .int .i64 t190, .bool x184006_84] 37 (0, 0))) ∧ Aside0 (Below w.heap.size w wc))
                                              case first =>
                                                have H := HC101.out
                                                clear HC101
                                                by_cases c107 : (!(x183000_5 == t189) || (!(x183001_5 == t190))) = true
                                                · rw [if_pos c107] at H
                                                  have c107b0 : (!(x183000_5 == t189) || (!(x183001_5 == t190))) = true := c107
                                                  clear c107
                                                  (first | rw [c107b0] | (simp only [i64_w, i32_w]; rw [c107b0]) | skip)
                                                  have H' := Aside0.mk H
                                                  clear H
                                                  have hnb108 := NB183_182.out
                                                  have hnc108 := NB182_183.out
                                                  have hcz109_0 : w106.cell? ⟨gb183, 0, none⟩ = some (.int .i64 x183000_5) := (blk_cell BK183.out 0).trans rfl
                                                  have hcz109_1 : w106.cell? ⟨gb183, 1, none⟩ = some (.int .i64 x183001_5) := (blk_cell BK183.out 1).trans rfl
                                                  have hcz109_2 : w106.cell? ⟨gb183, 2, none⟩ = some (.int .i64 x184002_84) := (blk_cell BK183.out 2).trans rfl
                                                  have hcz109_3 : w106.cell? ⟨gb183, 3, none⟩ = some (.int .i64 x184003_84) := (blk_cell BK183.out 3).trans rfl
                                                  have hcz109_4 : w106.cell? ⟨gb183, 4, none⟩ = some (.int .i64 t189) := (blk_cell BK183.out 4).trans rfl
                                                  have hcz109_5 : w106.cell? ⟨gb183, 5, none⟩ = some (.int .i64 t190) := (blk_cell BK183.out 5).trans rfl
                                                  have hcz109_6 : w106.cell? ⟨gb183, 6, none⟩ = some (.bool x184006_84) := (blk_cell BK183.out 6).trans rfl
                                                  have hfz109_0 := blk_frozen BK183.out 0
                                                  have hfz109_1 := blk_frozen BK183.out 1
                                                  have hfz109_2 := blk_frozen BK183.out 2
                                                  have hfz109_3 := blk_frozen BK183.out 3
                                                  have hfz109_4 := blk_frozen BK183.out 4
                                                  have hfz109_5 := blk_frozen BK183.out 5
                                                  have hfz109_6 := blk_frozen BK183.out 6
                                                  go_wp2
                                                  go_meet
                                                  case rel => exact ⟨_, (true), (by first | rfl | (simp; done) | (simp [*]; done)), H', ⟨by have := HK1.out; have := HJ2.out; have := HJ6.out; have := HK4.out; have := HK5.out; have := HJ84.out; first | omega | exact Nat.le_refl _⟩, ⟨by (with_reducible repeat (first | apply Kd.R_alloc | apply Kd.R_drewN | apply Kd.R_drew)); exact HO_4.out⟩, ⟨by (with_reducible repeat (first | apply Kd.R_alloc | apply Kd.R_drewN | apply Kd.R_drew)); exact HO_9.out⟩, ⟨by (with_reducible repeat (first | refine blk_drewN ?_ _ | refine blk_drew ?_ | refine blk_alloc ?_ _)); exact BK182.out⟩, ⟨by (with_reducible repeat (first | refine blk_drewN ?_ _ | refine blk_drew ?_ | refine blk_alloc ?_ _)); exact BK183.out⟩, ⟨by repeat (first | (with_reducible first | exact HB.out | apply below_alloc | apply pw_below_drewN | apply below_drew1 | refine below_set ?_ GE182.out | refine below_set ?_ GE183.out) | exact HB.out)⟩⟩
                                                · rw [if_neg c107] at H
                                                  have c107b0 : (!(x183000_5 == t189) || (!(x183001_5 == t190))) = false := by simpa using c107
                                                  clear c107
                                                  (first | rw [c107b0] | (simp only [i64_w, i32_w]; rw [c107b0]) | skip)
                                                  by_cases c110 : x184006_84 = true
                                                  · subst c110
                                                    have H1 : (calamusref11_Segs.j7 kj84 y176 x9_5 x11_84 (!(x184002_84 == x183000_5) || (!(x184003_84 == x183001_5))) t189 t190 x183000_5 x183001_5 x184002_84 x184003_84 t189 t190 true) = some r := by rw [if_pos rfl] at H; exact H
                                                    clear H
                                                    have H := H1
                                                    clear H1
                                                    have H' := Aside0.mk H
                                                    clear H
                                                    have hnb111 := NB183_182.out
                                                    have hnc111 := NB182_183.out
                                                    have hcz112_0 : w106.cell? ⟨gb183, 0, none⟩ = some (.int .i64 x183000_5) := (blk_cell BK183.out 0).trans rfl
                                                    have hcz112_1 : w106.cell? ⟨gb183, 1, none⟩ = some (.int .i64 x183001_5) := (blk_cell BK183.out 1).trans rfl
                                                    have hcz112_2 : w106.cell? ⟨gb183, 2, none⟩ = some (.int .i64 x184002_84) := (blk_cell BK183.out 2).trans rfl
                                                    have hcz112_3 : w106.cell? ⟨gb183, 3, none⟩ = some (.int .i64 x184003_84) := (blk_cell BK183.out 3).trans rfl
                                                    have hcz112_4 : w106.cell? ⟨gb183, 4, none⟩ = some (.int .i64 t189) := (blk_cell BK183.out 4).trans rfl
                                                    have hcz112_5 : w106.cell? ⟨gb183, 5, none⟩ = some (.int .i64 t190) := (blk_cell BK183.out 5).trans rfl
                                                    have hcz112_6 : w106.cell? ⟨gb183, 6, none⟩ = some (.bool true) := (blk_cell BK183.out 6).trans rfl
                                                    have hfz112_0 := blk_frozen BK183.out 0
                                                    have hfz112_1 := blk_frozen BK183.out 1
                                                    have hfz112_2 := blk_frozen BK183.out 2
                                                    have hfz112_3 := blk_frozen BK183.out 3
                                                    have hfz112_4 := blk_frozen BK183.out 4
                                                    have hfz112_5 := blk_frozen BK183.out 5
                                                    have hfz112_6 := blk_frozen BK183.out 6
                                                    go_wp2
                                                    go_meet
                                                    case rel => exact ⟨_, ((!(x184002_84 == x183000_5) || (!(x184003_84 == x183001_5)))), (by first | rfl | (simp; done) | (simp [*]; done)), H', ⟨by have := HK1.out; have := HJ2.out; have := HJ6.out; have := HK4.out; have := HK5.out; have := HJ84.out; first | omega | exact Nat.le_refl _⟩, ⟨by (with_reducible repeat (first | apply Kd.R_alloc | apply Kd.R_drewN | apply Kd.R_drew)); exact HO_4.out⟩, ⟨by (with_reducible repeat (first | apply Kd.R_alloc | apply Kd.R_drewN | apply Kd.R_drew)); exact HO_9.out⟩, ⟨by (with_reducible repeat (first | refine blk_drewN ?_ _ | refine blk_drew ?_ | refine blk_alloc ?_ _)); exact BK182.out⟩, ⟨by (with_reducible repeat (first | refine blk_drewN ?_ _ | refine blk_drew ?_ | refine blk_alloc ?_ _)); exact BK183.out⟩, ⟨by repeat (first | (with_reducible first | exact HB.out | apply below_alloc | apply pw_below_drewN | apply below_drew1 | refine below_set ?_ GE182.out | refine below_set ?_ GE183.out) | exact HB.out)⟩⟩
                                                  · replace c110 := Bool.eq_false_iff.mpr c110
                                                    subst c110
                                                    have H1 : (calamusref11_Segs.j7 kj84 y176 x9_5 x11_84 false t189 t190 x183000_5 x183001_5 x184002_84 x184003_84 t189 t190 false) = some r := by rw [if_neg (show ¬ (false = true) by decide)] at H; exact H
                                                    clear H
                                                    have H := H1
                                                    clear H1
                                                    have H' := Aside0.mk H
                                                    clear H
                                                    have hnb113 := NB183_182.out
                                                    have hnc113 := NB182_183.out
                                                    have hcz114_0 : w106.cell? ⟨gb183, 0, none⟩ = some (.int .i64 x183000_5) := (blk_cell BK183.out 0).trans rfl
                                                    have hcz114_1 : w106.cell? ⟨gb183, 1, none⟩ = some (.int .i64 x183001_5) := (blk_cell BK183.out 1).trans rfl
                                                    have hcz114_2 : w106.cell? ⟨gb183, 2, none⟩ = some (.int .i64 x184002_84) := (blk_cell BK183.out 2).trans rfl
                                                    have hcz114_3 : w106.cell? ⟨gb183, 3, none⟩ = some (.int .i64 x184003_84) := (blk_cell BK183.out 3).trans rfl
                                                    have hcz114_4 : w106.cell? ⟨gb183, 4, none⟩ = some (.int .i64 t189) := (blk_cell BK183.out 4).trans rfl
                                                    have hcz114_5 : w106.cell? ⟨gb183, 5, none⟩ = some (.int .i64 t190) := (blk_cell BK183.out 5).trans rfl
                                                    have hcz114_6 : w106.cell? ⟨gb183, 6, none⟩ = some (.bool false) := (blk_cell BK183.out 6).trans rfl
                                                    have hfz114_0 := blk_frozen BK183.out 0
                                                    have hfz114_1 := blk_frozen BK183.out 1
                                                    have hfz114_2 := blk_frozen BK183.out 2
                                                    have hfz114_3 := blk_frozen BK183.out 3
                                                    have hfz114_4 := blk_frozen BK183.out 4
                                                    have hfz114_5 := blk_frozen BK183.out 5
                                                    have hfz114_6 := blk_frozen BK183.out 6
                                                    go_wp2
                                                    go_meet
                                                    case rel => exact ⟨_, (false), (by first | rfl | (simp; done) | (simp [*]; done)), H', ⟨by have := HK1.out; have := HJ2.out; have := HJ6.out; have := HK4.out; have := HK5.out; have := HJ84.out; first | omega | exact Nat.le_refl _⟩, ⟨by (with_reducible repeat (first | apply Kd.R_alloc | apply Kd.R_drewN | apply Kd.R_drew)); exact HO_4.out⟩, ⟨by (with_reducible repeat (first | apply Kd.R_alloc | apply Kd.R_drewN | apply Kd.R_drew)); exact HO_9.out⟩, ⟨by (with_reducible repeat (first | refine blk_drewN ?_ _ | refine blk_drew ?_ | refine blk_alloc ?_ _)); exact BK182.out⟩, ⟨by (with_reducible repeat (first | refine blk_drewN ?_ _ | refine blk_drew ?_ | refine blk_alloc ?_ _)); exact BK183.out⟩, ⟨by repeat (first | (with_reducible first | exact HB.out | apply below_alloc | apply pw_below_drewN | apply below_drew1 | refine below_set ?_ GE182.out | refine below_set ?_ GE183.out) | exact HB.out)⟩⟩
                                              case rest =>
                                                clear HC101
                                                try clear c1
                                                try clear p1
                                                try clear q1
                                                try clear hx1
                                                try clear qi1
                                                try clear c2
                                                try clear p2
                                                try clear c3
                                                try clear c4
                                                try clear c5
                                                try clear c6
                                                try clear p6
                                                try clear c7
                                                try clear c8
                                                try clear c9
                                                try clear q9
                                                try clear c10
                                                try clear c11
                                                try clear p17
                                                try clear q17
                                                try clear hx17
                                                try clear qi17
                                                try clear p18
                                                try clear q18
                                                try clear hx18
                                                try clear c21
                                                try clear c27
                                                try clear c27b0
                                                try clear c30
                                                try clear c31
                                                try clear c47
                                                try clear c49
                                                try clear c50
                                                try clear c54
                                                try clear c55
                                                try clear p64
                                                try clear c65
                                                try clear c70
                                                try clear c73
                                                try clear c73b0
                                                try clear c73b1
                                                try clear c74
                                                try clear c75
                                                try clear c75b0
                                                try clear c75b1
                                                try clear c83
                                                try clear c83b0
                                                try clear c84
                                                try clear c84b0
                                                try clear c88
                                                try clear q91
                                                try clear c92
                                                try clear c95
                                                try clear c98
                                                try clear c98b0
                                                try clear c99
                                                try clear c99b0
                                                try clear c103
                                                try clear c107
                                                try clear c107b0
                                                try clear c108
                                                try clear c110
                                                try clear c111
                                                try clear c113
                                                try clear hcz104_0
                                                try clear hcz104_1
                                                try clear hcz104_2
                                                try clear hcz104_3
                                                try clear hcz104_4
                                                try clear hcz104_5
                                                try clear hcz104_6
                                                try clear hcz105_0
                                                try clear hcz105_1
                                                try clear hcz109_0
                                                try clear hcz109_1
                                                try clear hcz109_2
                                                try clear hcz109_3
                                                try clear hcz109_4
                                                try clear hcz109_5
                                                try clear hcz109_6
                                                try clear hcz112_0
                                                try clear hcz112_1
                                                try clear hcz112_2
                                                try clear hcz112_3
                                                try clear hcz112_4
                                                try clear hcz112_5
                                                try clear hcz112_6
                                                try clear hcz114_0
                                                try clear hcz114_1
                                                try clear hcz114_2
                                                try clear hcz114_3
                                                try clear hcz114_4
                                                try clear hcz114_5
                                                try clear hcz114_6
                                                try clear hcz66_0
                                                try clear hcz66_1
                                                try clear hcz68_0
                                                try clear hcz68_1
                                                try clear hcz68_2
                                                try clear hcz71_0
                                                try clear hcz71_1
                                                try clear hcz71_2
                                                try clear hcz82_0
                                                try clear hcz82_1
                                                try clear hcz86_0
                                                try clear hcz86_1
                                                try clear hcz89_0
                                                try clear hcz89_1
                                                try clear hcz89_2
                                                try clear hcz89_3
                                                try clear hcz89_4
                                                try clear hcz89_5
                                                try clear hcz89_6
                                                try clear hcz96_0
                                                try clear hcz96_1
                                                try clear hcz96_2
                                                try clear hcz96_3
                                                try clear hcz96_4
                                                try clear hcz96_5
                                                try clear hcz96_6
                                                try clear hfz104_0
                                                try clear hfz104_1
                                                try clear hfz104_2
                                                try clear hfz104_3
                                                try clear hfz104_4
                                                try clear hfz104_5
                                                try clear hfz104_6
                                                try clear hfz105_0
                                                try clear hfz105_1
                                                try clear hfz109_0
                                                try clear hfz109_1
                                                try clear hfz109_2
                                                try clear hfz109_3
                                                try clear hfz109_4
                                                try clear hfz109_5
                                                try clear hfz109_6
                                                try clear hfz112_0
                                                try clear hfz112_1
                                                try clear hfz112_2
                                                try clear hfz112_3
                                                try clear hfz112_4
                                                try clear hfz112_5
                                                try clear hfz112_6
                                                try clear hfz114_0
                                                try clear hfz114_1
                                                try clear hfz114_2
                                                try clear hfz114_3
                                                try clear hfz114_4
                                                try clear hfz114_5
                                                try clear hfz114_6
                                                try clear hfz66_0
                                                try clear hfz66_1
                                                try clear hfz68_0
                                                try clear hfz68_1
                                                try clear hfz68_2
                                                try clear hfz71_0
                                                try clear hfz71_1
                                                try clear hfz71_2
                                                try clear hfz82_0
                                                try clear hfz82_1
                                                try clear hfz86_0
                                                try clear hfz86_1
                                                try clear hfz89_0
                                                try clear hfz89_1
                                                try clear hfz89_2
                                                try clear hfz89_3
                                                try clear hfz89_4
                                                try clear hfz89_5
                                                try clear hfz89_6
                                                try clear hfz96_0
                                                try clear hfz96_1
                                                try clear hfz96_2
                                                try clear hfz96_3
                                                try clear hfz96_4
                                                try clear hfz96_5
                                                try clear hfz96_6
                                                try clear hx175_0
                                                try clear hx175_1
                                                try clear hx175_2
                                                try clear hx179_0
                                                try clear hx179_1
                                                try clear hx179_2
                                                try clear hx184_0
                                                try clear hx184_1
                                                try clear hx184_2
                                                try clear hx185_0
                                                try clear hx185_1
                                                try clear hx185_2
                                                try clear hx188_0
                                                try clear hx188_1
                                                try clear hx188_2
                                                try clear p1
                                                try clear p17
                                                try clear p175
                                                try clear p179
                                                try clear p18
                                                try clear p184
                                                try clear p185
                                                try clear p188
                                                try clear p2
                                                try clear p6
                                                try clear p64
                                                try clear q1
                                                try clear q17
                                                try clear q175
                                                try clear q179
                                                try clear q18
                                                try clear q184
                                                try clear q185
                                                try clear q188
                                                try clear q9
                                                try clear q91
                                                obtain ⟨kq, x165_100, rfl, HA, HJ100, HO_4, HO_9, BK182, BK183, HB⟩ := hcut
                                                cases kq with
                                                | zero => exact absurd HA.out (by simp [calamusref11_Segs.j7])
                                                | succ kj100 =>
                                                  have H := HA.out
                                                  clear HA
                                                  simp only [calamusref11_Segs.j7] at H
                                                  by_cases c115 : x165_100 = true
                                                  · subst c115
                                                    have H1 : (if x9_5.length < 2513169434916 then (calamusref11_Segs.l2 kj100 y176 (x9_5 ++ [(⟨(⟨x183000_5, x183001_5⟩ : S33), (⟨x184002_84, x184003_84⟩ : S33), (⟨t189, t190⟩ : S33), x184006_84⟩ : S37)]) (wrap64 (x11_84 + 1)) t189 t190) else (none)) = some r := by rw [if_pos rfl] at H; exact H
                                                    clear H
                                                    have H := H1
                                                    clear H1
                                                    by_cases c116 : x9_5.length < 2513169434916
                                                    · rw [if_pos c116] at H
                                                      have LMc116 := Aside0.mk c116
                                                      clear c116
                                                      obtain ⟨y191, hy191⟩ : ∃ y_ : List (S37), y_ = (x9_5 ++ [(⟨(⟨x183000_5, x183001_5⟩ : S33), (⟨x184002_84, x184003_84⟩ : S33), (⟨t189, t190⟩ : S33), x184006_84⟩ : S37)]) := ⟨_, rfl⟩
                                                      replace H : (calamusref11_Segs.l2 kj100 y176 y191 (wrap64 (x11_84 + 1)) t189 t190) = some r := by first | (rw [hy191]; with_reducible exact H) | (have H2_ := (Option.bind_some _ _).symm.trans H; rw [hy191]; with_reducible exact H2_) | (have H2_ := (Option.bind_some _ _).symm.trans H; with_reducible exact H2_) | with_reducible exact H | (rw [hy191]; exact H) | exact H
                                                      have Ny191 := Aside0.mk hy191
                                                      clear hy191
                                                      have H' := Aside0.mk H
                                                      clear H
                                                      have hnb117 := NB183_182.out
                                                      have hnc117 := NB182_183.out
                                                      have hcz118_0 : wc.cell? ⟨gb183, 0, none⟩ = some (.int .i64 x183000_5) := (blk_cell BK183.out 0).trans rfl
                                                      have hcz118_1 : wc.cell? ⟨gb183, 1, none⟩ = some (.int .i64 x183001_5) := (blk_cell BK183.out 1).trans rfl
                                                      have hcz118_2 : wc.cell? ⟨gb183, 2, none⟩ = some (.int .i64 x184002_84) := (blk_cell BK183.out 2).trans rfl
                                                      have hcz118_3 : wc.cell? ⟨gb183, 3, none⟩ = some (.int .i64 x184003_84) := (blk_cell BK183.out 3).trans rfl
                                                      have hcz118_4 : wc.cell? ⟨gb183, 4, none⟩ = some (.int .i64 t189) := (blk_cell BK183.out 4).trans rfl
                                                      have hcz118_5 : wc.cell? ⟨gb183, 5, none⟩ = some (.int .i64 t190) := (blk_cell BK183.out 5).trans rfl
                                                      have hcz118_6 : wc.cell? ⟨gb183, 6, none⟩ = some (.bool x184006_84) := (blk_cell BK183.out 6).trans rfl
                                                      have hfz118_0 := blk_frozen BK183.out 0
                                                      have hfz118_1 := blk_frozen BK183.out 1
                                                      have hfz118_2 := blk_frozen BK183.out 2
                                                      have hfz118_3 := blk_frozen BK183.out 3
                                                      have hfz118_4 := blk_frozen BK183.out 4
                                                      have hfz118_5 := blk_frozen BK183.out 5
                                                      have hfz118_6 := blk_frozen BK183.out 6
                                                      go_wp2_with (first | ((with_reducible refine gate_builtin (b := .append) (xs := #[.tmp 166, .tmp 168]) rfl ?_); (try (refine gate_guard (by rfl) ?_; dsimp only)); at_builtin; refine Kd.R_append k37 (w0 := w) w.heap.size rfl (.tmp 166) (.tmp 168) 25 37 (.agg #[(.int .i64 0), (.int .i64 0), (.int .i64 0), (.int .i64 0), (.int .i64 0), (.int .i64 0), (.bool false)]) 56 rfl Try.underlying25 info37 rfl (by decide) (by omega) u9 x9_5 (⟨(⟨x183000_5, x183001_5⟩ : S33), (⟨x184002_84, x184003_84⟩ : S33), (⟨t189, t190⟩ : S33), x184006_84⟩ : S37) [.int .i64 x183000_5, .int .i64 x183001_5, .int .i64 x184002_84, .int .i64 x184003_84, .int .i64 t189, .int .i64 t190, .bool x184006_84] (fun k_ => k_ ≠ gb183) (fun _ => False) rfl rfl ?aP (fun _ hk => hk.elim) ?aF ?aO ?aB ?aS ?aL ?_; (case aP => exact k37_mkM _ _ _ (⟨(⟨x183000_5, x183001_5⟩ : S33), (⟨x184002_84, x184003_84⟩ : S33), (⟨t189, t190⟩ : S33), x184006_84⟩ : S37)); (case aB => exact (by repeat (first | (with_reducible first | exact HB.out | apply below_alloc | apply pw_below_drewN | apply below_drew1 | refine below_set ?_ GE182.out | refine below_set ?_ GE183.out) | exact HB.out))); (case aF => exact (fun k_ hk => Kd.freshB (g := gb183) (o := .cells #[.int .i64 x183000_5, .int .i64 x183001_5, .int .i64 x184002_84, .int .i64 x184003_84, .int .i64 t189, .int .i64 t190, .bool x184006_84] 37 (0, 0)) (by (with_reducible repeat (first | refine blk_drewN ?_ _ | refine blk_drew ?_ | refine blk_alloc ?_ _)); exact BK183.out) k_ hk)); (case aO => exact (by (with_reducible repeat (first | apply Kd.R_alloc | apply Kd.R_drewN | apply Kd.R_drew)); exact HO_9.out)); (case aS => exact (below_size (by repeat (first | (with_reducible first | exact HB.out | apply below_alloc | apply pw_below_drewN | apply below_drew1 | refine below_set ?_ GE182.out | refine below_set ?_ GE183.out) | exact HB.out)))); (case aL => have := LMc116.out; omega); intro v192 w119 ho hb hg hat; rw [← Ny191.out] at ho; have n0_ := Aside0.mk (Kd.R_over' (by (with_reducible repeat (first | apply Kd.R_alloc | apply Kd.R_drewN | apply Kd.R_drew)); exact HO_4.out) (Kd.R_typed (by (with_reducible repeat (first | apply Kd.R_alloc | apply Kd.R_drewN | apply Kd.R_drew)); exact HO_9.out)) (by decide) hg); have n1_ := Aside0.mk (blk_grown (g := gb182) (o := .cells #[.int .i64 t189, .int .i64 t190] 33 (0, 0)) (by (with_reducible repeat (first | refine blk_drewN ?_ _ | refine blk_drew ?_ | refine blk_alloc ?_ _)); exact BK182.out) hg (Kd.R_ne HO_9.out BK182.out (by decide))); have n2_ := Aside0.mk (blk_grown (g := gb183) (o := .cells #[.int .i64 x183000_5, .int .i64 x183001_5, .int .i64 x184002_84, .int .i64 x184003_84, .int .i64 t189, .int .i64 t190, .bool x184006_84] 37 (0, 0)) (by (with_reducible repeat (first | refine blk_drewN ?_ _ | refine blk_drew ?_ | refine blk_alloc ?_ _)); exact BK183.out) hg (Kd.R_away HO_9.out (fun _ hk => hk))); have n3_ := Aside0.mk (hb); have n4_ := Aside0.mk (ho); clear HO_4; clear BK182; clear BK183; clear HB; clear HO_9; have HO_4 := n0_; have BK182 := n1_; have BK183 := n2_; have HB := n3_; have HO193 := n4_; clear n0_ n1_ n2_ n3_ n4_; clear ho hb hg hat))
                                                      go_roundg kj100
                                                      case measure => have := HK1.out; have := HJ2.out; have := HJ6.out; have := HK4.out; have := HK5.out; have := HJ84.out; have := HJ100.out; omega
                                                      case rel => exact ⟨(y191), (wrap64 (x11_84 + 1)), (t189), (t190), (by first | rfl | (simp; done) | (simp [*]; done)), H', ⟨by have := HK1.out; have := HJ2.out; have := HJ6.out; have := HK4.out; have := HK5.out; have := HJ84.out; have := HJ100.out; omega⟩, ⟨by (with_reducible repeat (first | apply Kd.R_alloc | apply Kd.R_drewN | apply Kd.R_drew)); exact HO_4.out⟩, ⟨by (with_reducible repeat (first | apply Kd.R_alloc | apply Kd.R_drewN | apply Kd.R_drew)); exact Kd.R_mono HO193.out (fun _ hk => trivial)⟩, ⟨by (with_reducible repeat (first | refine blk_drewN ?_ _ | refine blk_drew ?_ | refine blk_alloc ?_ _)); exact BK182.out⟩, ⟨by repeat (first | (with_reducible first | exact HB.out | apply below_alloc | apply pw_below_drewN | apply below_drew1 | refine below_set ?_ GE182.out | refine below_set ?_ GE183.out) | exact HB.out)⟩⟩
                                                    · rw [if_neg c116] at H
                                                      exact absurd H (by simp)
                                                  · replace c115 := Bool.eq_false_iff.mpr c115
                                                    subst c115
                                                    have H1 : (calamusref11_Segs.l2 kj100 y176 x9_5 (wrap64 (x11_84 + 1)) t189 t190) = some r := by rw [if_neg (show ¬ (false = true) by decide)] at H; exact H
                                                    clear H
                                                    have H := H1
                                                    clear H1
                                                    have H' := Aside0.mk H
                                                    clear H
                                                    go_wp2
                                                    go_roundg kj100
                                                    case measure => have := HK1.out; have := HJ2.out; have := HJ6.out; have := HK4.out; have := HK5.out; have := HJ84.out; have := HJ100.out; omega
                                                    case rel => exact ⟨(x9_5), (wrap64 (x11_84 + 1)), (t189), (t190), (by first | rfl | (simp; done) | (simp [*]; done)), H', ⟨by have := HK1.out; have := HJ2.out; have := HJ6.out; have := HK4.out; have := HK5.out; have := HJ84.out; have := HJ100.out; omega⟩, ⟨by (with_reducible repeat (first | apply Kd.R_alloc | apply Kd.R_drewN | apply Kd.R_drew)); exact HO_4.out⟩, ⟨by (with_reducible repeat (first | apply Kd.R_alloc | apply Kd.R_drewN | apply Kd.R_drew)); exact Kd.R_mono HO_9.out (fun _ hk => trivial)⟩, ⟨by (with_reducible repeat (first | refine blk_drewN ?_ _ | refine blk_drew ?_ | refine blk_alloc ?_ _)); exact BK182.out⟩, ⟨by repeat (first | (with_reducible first | exact HB.out | apply below_alloc | apply pw_below_drewN | apply below_drew1 | refine below_set ?_ GE182.out | refine below_set ?_ GE183.out) | exact HB.out)⟩⟩
                                            · rw [if_neg c99] at H
                                              exact absurd H (by simp)
                                          · rw [if_neg c98] at H
                                            exact absurd H (by simp)
                                    · rw [if_neg c84] at H
                                      exact absurd H (by simp)
                                  · rw [if_neg c83] at H
                                    have c83b0 : decide (x11_5 < (y176.length : Int)) = false := decide_eq_false c83
                                    clear c83
                                    obtain rfl := Option.some.inj H
                                    go_wp2
                                    go_ret
                                    exact ⟨_, by first | rfl | (simp [errW_none, errW_some] <;> rfl) | (simp [*, errW_none, errW_some] <;> rfl), by (with_reducible repeat (first | apply Kd.R_alloc | apply Kd.R_drewN | apply Kd.R_drew)); exact HO_9.out, by repeat (first | (with_reducible first | exact HB.out | apply below_alloc | apply pw_below_drewN | apply below_drew1 | refine below_set ?_ GE182.out) | exact HB.out)⟩
                            · rw [if_neg c75] at H
                              exact absurd H (by simp)
                          · rw [if_neg c74] at H
                            exact absurd H (by simp)
                        · rw [if_neg c73] at H
                          exact absurd H (by simp)

end Go.Proofs.Ytoghjnmcimniaaa.O
