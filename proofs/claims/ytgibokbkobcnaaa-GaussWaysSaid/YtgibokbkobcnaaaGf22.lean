/- What Go functions answer, as Lean functions, and that they do: written by wip/xprint.py of this session (the kit's printer with turns, texts by hand among them). -/
import Derived.Test.YtgibokbkobcnaaaG0
import Derived.Test.YtgibokbkobcnaaaGd0
import Derived.Test.YtgibokbkobcnaaaGf19
import Derived.Test.YtgibokbkobcnaaaGf16
namespace Go.Proofs.Ytgibokbkobcnaaa.G
open Go.RowKit Go.Proofs.YtgibokbkobcnaaaW.PrintWords Go.Proofs.YtgibokbkobcnaaaW.PrintLast Go.Proofs.YtgibokbkobcnaaaW.PrintMore
attribute [local go_sem] max2_int min2_int max_two min_two max_three min_three max_four min_four   -- for this text's walks alone
set_option linter.unusedVariables false
set_option linter.unusedSimpArgs false

/-! ### gauss_Area: function 22 -/
-- CALLS
theorem gauss_Area.good_all (l : List S23) (hl : l.length < 1000000) : ∀ (k i : Nat), gauss_Good.l0 k l l.length i = some true → ∀ j, i ≤ j → j < l.length → gauss_Cross.gd (l.getD j z23).f0 (l.getD j z23).f1 = true
  | 0, i, h, j, _, _ => by simp [gauss_Good.l0] at h
  | k + 1, i, h, j, hij, hj => by
    rw [gauss_Cross.good_step k l l.length i (by omega) rfl hl] at h
    by_cases hc : gauss_Cross.gd (l.getD i z23).f0 (l.getD i z23).f1 = true
    · rw [if_pos hc] at h
      by_cases e : j = i
      · subst e; exact hc
      · exact gauss_Area.good_all l hl k (i + 1) h j (by omega) hj
    · rw [if_neg hc] at h
      cases h
theorem gauss_Area.st_at (l : List S23) (z : S23) (j : Nat) (hj : 0 < j) : (gauss_Area.st l z j).2 = l.getD (j - 1) z23 := by
  obtain ⟨m, rfl⟩ : ∃ m, j = m + 1 := ⟨j - 1, by omega⟩
  rfl
theorem gauss_Area.step {l : List S23} {z : S23} {j re im : Nat} (h : Fl.Is re (gauss_Area.st l z j).2.f0 ∧ Fl.Is im (gauss_Area.st l z j).2.f1) (hz : -4194304 ≤ z.f0 ∧ z.f0 ≤ 4194304 ∧ -4194304 ≤ z.f1 ∧ z.f1 ≤ 4194304)
    {p : S23} (hp : -4194304 ≤ p.f0 ∧ p.f0 ≤ 4194304 ∧ -4194304 ≤ p.f1 ∧ p.f1 ≤ 4194304) (ha : ∀ i, i < j → -4194304 ≤ (l.getD i z23).f0 ∧ (l.getD i z23).f0 ≤ 4194304 ∧ -4194304 ≤ (l.getD i z23).f1 ∧ (l.getD i z23).f1 ≤ 4194304) :
    ∃ re' im', cMulBits re (Op.negFloat .f64 im) (Fl.of p.f0) (Fl.of p.f1) = some (re', im') ∧ floatToIntVal .f64 im' .i64 = some ((gauss_Area.st l z j).2.f0 * p.f1 - (gauss_Area.st l z j).2.f1 * p.f0) := by
  have hb : -4194304 ≤ (gauss_Area.st l z j).2.f0 ∧ (gauss_Area.st l z j).2.f0 ≤ 4194304 ∧ -4194304 ≤ (gauss_Area.st l z j).2.f1 ∧ (gauss_Area.st l z j).2.f1 ≤ 4194304 := by
    by_cases hj : j = 0
    · subst hj; exact hz
    · rw [gauss_Area.st_at l z j (by omega)]
      exact ha (j - 1) (by omega)
  obtain ⟨r, i, e, _, i2⟩ := Fl.cmul h.1 (Fl.neg h.2) (gauss_Cross.isof ⟨hp.1, hp.2.1⟩) (gauss_Cross.isof ⟨hp.2.2.1, hp.2.2.2⟩) (gauss_Cross.abs_mul ⟨hb.1, hb.2.1⟩ ⟨hp.1, hp.2.1⟩) (gauss_Cross.abs_mul (by omega) ⟨hp.2.2.1, hp.2.2.2⟩) (gauss_Cross.abs_mul ⟨hb.1, hb.2.1⟩ ⟨hp.2.2.1, hp.2.2.2⟩) (gauss_Cross.abs_mul (by omega) ⟨hp.1, hp.2.1⟩)
  refine ⟨r, i, e, ?_⟩
  have := Fl.toInt i2
  rwa [Int.neg_mul, ← Int.sub_eq_add_neg] at this
set_option maxHeartbeats 4000000 in
set_option maxRecDepth 100000 in
theorem gauss_Area.calls (k : Nat) (A0 : Option Addr) (c0 : Nat) (l0 : List (S23)) (r1 : Int) (r2 : Int) (w : World) (hr0 : Kd.C k23 w A0 l0.length l0) (hc0 : l0.length ≤ c0) (h : gauss_Area.f k l0 = some (r1, r2)) :
    Calls Try.prog 22 #[.slice A0 l0.length c0] w fun e w' => e = .returned (.tuple #[.int .i64 r1, .int .i64 r2]) ∧ Below w.heap.size w w' := by
  have huP := Try.underlying23
  have huC := Try.underlying78
  have huF := Try.underlying77
  have huI := Try.underlying3
  unfold gauss_Area.f at h
  have HR0 := Aside0.mk hr0
  have HC0 := Aside0.mk hc0
  clear hr0 hc0
  by_cases h1 : (l0.length : Int) > 4096
  · rw [if_pos h1] at h
    obtain ⟨rfl, rfl⟩ := Prod.mk.inj (Option.some.inj h)
    have h1' : decide ((4096 : Int) < (l0.length : Int)) = true := decide_eq_true h1
    have h1b : decide (4096 < l0.length) = true := decide_eq_true (by omega)
    clear h h1
    go_enter Try.func22, Try.ntmps22
    go_wp2
    go_ret2
    exact ⟨rfl, Below.refl _ _⟩
  · rw [if_neg h1] at h
    have h1' : decide ((4096 : Int) < (l0.length : Int)) = false := decide_eq_false h1
    have h1b : decide (4096 < l0.length) = false := decide_eq_false (by omega)
    have HN := Aside0.mk (show l0.length ≤ 4096 by omega)
    clear h1
    obtain ⟨g, hg, h⟩ := Option.bind_eq_some_iff.mp h
    have HG := Aside0.mk hg
    clear hg
    cases g
    · rw [if_neg (by simp)] at h
      obtain ⟨rfl, rfl⟩ := Prod.mk.inj (Option.some.inj h)
      clear h
      go_enter Try.func22, Try.ntmps22
      go_wp2_with (go_at_call 19; go_loud (refine (gauss_Good.calls _ _ _ l0 _ _ HR0.out HC0.out HG.out).mono ?_); rintro e w1 ⟨rfl, hb⟩; have HB := Aside0.mk hb; clear hb)
      go_ret2
      exact ⟨rfl, HB.out⟩
    · rw [if_pos rfl] at h
      by_cases h2 : (l0.length : Int) = 0
      · rw [if_pos h2] at h
        obtain ⟨rfl, rfl⟩ := Prod.mk.inj (Option.some.inj h)
        have h2a : ((l0.length : Int) == 0) = true := beq_iff_eq.2 h2
        have h2b : (l0.length == 0) = true := beq_iff_eq.2 (by omega)
        have h2c : l0 = [] := List.eq_nil_of_length_eq_zero (by omega)
        subst h2c
        clear h h2 h2a h2b h1' h1b
        go_enter Try.func22, Try.ntmps22
        go_wp2_with (go_at_call 19; (refine (gauss_Good.calls _ _ _ ([] : List S23) _ _ HR0.out HC0.out HG.out).mono ?_); rintro e w1 ⟨rfl, hb⟩; have HB := Aside0.mk hb; clear hb)
        go_ret2
        exact ⟨rfl, HB.out⟩
      · rw [if_neg h2] at h
        obtain ⟨rfl, rfl⟩ := Prod.mk.inj (Option.some.inj h)
        have h2a : ((l0.length : Int) == 0) = false := beq_eq_false_iff_ne.2 h2
        have h2c : ¬ (l0 = []) := fun e => h2 (by rw [e]; rfl)
        have hn1 : 0 < l0.length := by omega
        have HA := Aside0.mk (fun j => gauss_Area.good_all l0 (by have := HN.out; omega) k 0 HG.out j (Nat.zero_le _))
        obtain ⟨ad, ead, hx0, hx1⟩ := at_T23 HR0.out ((l0.length : Int) - 1) (by omega) (by omega)
        obtain rfl := ead
        have hn2 : l0.length ≤ 4096 := HN.out
        have hw1 : IntKind.i64.wrap ((l0.length : Int) - 1) = (l0.length : Int) - 1 := (i64_w _).trans (gauss_Cross.w_id (by omega) (by omega))
        have hp1 : decide ((0 : Int) ≤ (l0.length : Int) - 1) = true := decide_eq_true (by omega)
        have hp2 : (0 : Int) ≤ (l0.length : Int) - 1 := by omega
        have hp3 : (l0.length : Int) - 1 < (l0.length : Int) := by omega
        have hrd : rd_T23 l0 ((l0.length : Int) - 1) = l0.getD (l0.length - 1) z23 := by
          show l0.getD ((l0.length : Int) - 1).toNat _ = _
          rw [show ((l0.length : Int) - 1).toNat = l0.length - 1 by omega]
        rw [hrd, show ((l0.length : Int) - 1).toNat = l0.length - 1 by omega] at hx0 hx1
        clear hrd h
        have hz := gauss_Cross.gd_iff.1 (HA.out (l0.length - 1) (by omega))
        generalize hzz : l0.getD (l0.length - 1) z23 = zl at *
        have HZ := Aside0.mk hz
        have HX0 := Aside0.mk hx0
        have HX1 := Aside0.mk hx1
        clear hz hzz
        go_enter Try.func22, Try.ntmps22
        go_wp2_with (first | (go_at_call 19; (with_reducible refine (gauss_Good.calls _ _ _ l0 _ _ HR0.out HC0.out HG.out).mono ?_); rintro e w1 ⟨rfl, hb⟩; have HB := Aside0.mk hb; have hy0 := pw_cell_below hb hx0; have hy1 := pw_cell_below hb hx1; clear hb) | (go_at_call 50; (with_reducible refine (gauss_Cross.of_calls _ _ _).mono ?_); rintro e w2 ⟨rfl, hb⟩; have HB2 := Aside0.mk (below_step HB.out hb); clear hb))
        clear hx0 hx1 hy0 hy1 hw1 hp1 hp2 hp3
        have hI0 := gauss_Cross.isof ⟨HZ.out.1, HZ.out.2.1⟩
        have hI1 := gauss_Cross.isof ⟨HZ.out.2.2.1, HZ.out.2.2.2⟩
        have HI := Aside0.mk (And.intro hI0 hI1)
        clear hI0 hI1
        go_loopw [4, 5, 30] (fun s z i wr => ∃ (x : Int) (re im : Nat), 0 ≤ x ∧ x ≤ l0.length ∧ i = .int .i64 x ∧ s = .int .i64 (gauss_Area.st l0 zl x.toNat).1 ∧ z = .complex .f64 re im ∧ Aside0 (Fl.Is re (gauss_Area.st l0 zl x.toNat).2.f0 ∧ Fl.Is im (gauss_Area.st l0 zl x.toNat).2.f1) ∧ Aside0 (Below w.heap.size w wr)) (fun _ _ i _ => l0.length - (intOf i).toNat)
        case atStart => exact ⟨0, _, _, Int.le_refl _, by omega, rfl, rfl, rfl, ⟨HI.out⟩, HB2⟩
        case round =>
          obtain ⟨x, re, im, hx0, hxn, rfl, rfl, rfl, hIs, hBel⟩ := hrel
          by_cases hlt : x < (l0.length : Int)
          · obtain ⟨ad', ead', hq0, hq1⟩ := at_T23 HR0.out x hx0 hlt
            have ead'' : ad' = ad := by injection ead' with e; exact e.symm
            subst ead''
            clear ead'
            have hrx : rd_T23 l0 x = l0.getD x.toNat z23 := rfl
            rw [hrx] at hq0 hq1
            have hg1 := gauss_Cross.gd_iff.1 (HA.out x.toNat (by omega))
            have hs := gauss_Area.step (l := l0) (z := zl) (j := x.toNat) hIs.out HZ.out hg1 (fun i hi => gauss_Cross.gd_iff.1 (HA.out i (by omega)))
            obtain ⟨re', im', hmul, hto⟩ := hs
            have hm : ∀ W : World, (binOp .mul 78 (.complex .f64 re (Op.negFloat .f64 im)) (.complex .f64 (Fl.of (l0.getD x.toNat z23).f0) (Fl.of (l0.getD x.toNat z23).f1))).run Try.prog W = .ok (.complex .f64 re' im') W := fun W => run_complex_mul W _ _ _ _ _ _ _ hmul
            have hnext : gauss_Area.st l0 zl (x + 1).toNat = (wrap64 ((gauss_Area.st l0 zl x.toNat).1 + ((gauss_Area.st l0 zl x.toNat).2.f0 * (l0.getD x.toNat z23).f1 - (gauss_Area.st l0 zl x.toNat).2.f1 * (l0.getD x.toNat z23).f0)), l0.getD x.toNat z23) := by
              rw [show (x + 1).toNat = x.toNat + 1 by omega]; rfl
            have HNX := Aside0.mk hnext
            clear hnext hmul
            generalize l0.getD x.toNat z23 = p at *
            generalize (gauss_Area.st l0 zl x.toNat).2 = zz at *
            generalize (gauss_Area.st l0 zl x.toNat).1 = ss at *
            have hv : ∀ W : World, (convert 77 3 (.float .f64 im')).run Try.prog W = .ok (.int .i64 (zz.f0 * p.f1 - zz.f1 * p.f0)) W := fun W => run_convert_float_int W _ _ _ _ _ _ (by rw [huF]; rfl) huI hto
            have HP := Aside0.mk hg1
            have hr0 := (hBel.out.cell (World.block_lt_of_cell? w _ hq0)).trans hq0
            have hr1 := (hBel.out.cell (World.block_lt_of_cell? w _ hq1)).trans hq1
            clear hto hq0 hq1 hg1
            have hlt' : decide (x < (l0.length : Int)) = true := decide_eq_true hlt
            have hx0' : decide (0 ≤ x) = true := decide_eq_true hx0
            have hwx : IntKind.i64.wrap (x + 1) = x + 1 := (i64_w _).trans (gauss_Cross.w_id (by omega) (by omega))
            go_wp2_with (first | (go_at_call 50; (with_reducible refine (gauss_Cross.of_calls _ _ _).mono ?_); rintro e w5 ⟨rfl, hb⟩; have HB5 := Aside0.mk (below_step (below_alloc hBel.out _) hb); clear hb) | (go_at_call 49; (with_reducible refine (gauss_Cross.conj_calls _ _ _).mono ?_); rintro e w6 ⟨rfl, hb⟩; have HB6 := Aside0.mk (below_step HB5.out hb); clear hb))
            go_roundw
            case rel => exact ⟨x + 1, _, _, by omega, by omega, rfl, by rw [HNX.out], rfl, ⟨by rw [HNX.out]; exact ⟨gauss_Cross.isof ⟨HP.out.1, HP.out.2.1⟩, gauss_Cross.isof ⟨HP.out.2.2.1, HP.out.2.2.2⟩⟩⟩, HB6⟩
            case measure => simp [intOf]; omega
          · obtain rfl : x = (l0.length : Int) := by omega
            have hlt' : decide ((l0.length : Int) < (l0.length : Int)) = false := decide_eq_false hlt
            rw [Int.toNat_natCast]
            go_wp2
            go_ret2
            exact ⟨rfl, hBel.out⟩

end Go.Proofs.Ytgibokbkobcnaaa.G
