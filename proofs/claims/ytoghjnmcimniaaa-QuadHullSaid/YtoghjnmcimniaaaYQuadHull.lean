/- The law QuadHull over values alone: each point of a piece lies in its box; its ends are its points at 0 and 1; gone the other way it has the same points. -/
import Derived.Test.YtoghjnmcimniaaaSQuadHull
import Derived.Test.YtoghjnmcimniaaaYQuadBends
namespace Go.Proofs.Ytoghjnmcimniaaa.Q.Base
open Go.RowKit Go.Proofs.YtoghjnmcimniaaaW.PrintWords Go.Proofs.YtoghjnmcimniaaaW.PrintLast Go.Proofs.YtoghjnmcimniaaaW.PrintMore Go.Proofs.Ytoghjnmcimniaaa.Q
set_option linter.unusedVariables false
theorem co_first (v : Bool) (m a c e : Int) : co v 0 m a c e = m * m * a := by
  cases v with
  | true => simp only [co, w1, w2, w3, if_true]; grind
  | false => simp only [co, w1, w2, w3, Bool.false_eq_true, if_false]; grind
theorem co_last (v : Bool) (m a c e : Int) : co v m m a c e = m * m * e := by
  cases v with
  | true => simp only [co, w1, w2, w3, if_true]; grind
  | false => simp only [co, w1, w2, w3, Bool.false_eq_true, if_false]; grind
theorem co_back (v : Bool) (k m a c e : Int) : co v (m - k) m e c a = co v k m a c e := by
  cases v with
  | true => simp only [co, w1, w2, w3, if_true]; grind
  | false => simp only [co, w1, w2, w3, Bool.false_eq_true, if_false]; grind
def lo (v : Bool) (a c e : Int) : Int := if v = true then mn (mn a c) e else mn a e
def up (v : Bool) (a c e : Int) : Int := if v = true then mx (mx a c) e else mx a e
theorem box_lu (a b c d e f : Int) (v : Bool) : boxS a b c d e f v = (lo v a c e, lo v b d f, up v a c e, up v b d f) := by
  unfold boxS lo up
  cases v <;> rfl
theorem lo_le {v : Bool} {a c e : Int} : lo v a c e ≤ a ∧ (v = true → lo v a c e ≤ c) ∧ lo v a c e ≤ e := by
  unfold lo mn
  cases v with
  | true => simp only [if_true]; repeat' split; all_goals omega
  | false => simp only [Bool.false_eq_true, if_false]; repeat' split; all_goals (refine ⟨by omega, (fun h => h.elim), by omega⟩)
theorem up_ge {v : Bool} {a c e : Int} : a ≤ up v a c e ∧ (v = true → c ≤ up v a c e) ∧ e ≤ up v a c e := by
  unfold up mx
  cases v with
  | true => simp only [if_true]; repeat' split; all_goals omega
  | false => simp only [Bool.false_eq_true, if_false]; repeat' split; all_goals (refine ⟨by omega, (fun h => h.elim), by omega⟩)
theorem lo_bd {v : Bool} {a c e L : Int} (ha : L ≤ a) (hc : L ≤ c) (he : L ≤ e) : L ≤ lo v a c e := by
  unfold lo mn
  repeat' split
  all_goals omega
theorem up_bd {v : Bool} {a c e U : Int} (ha : a ≤ U) (hc : c ≤ U) (he : e ≤ U) : up v a c e ≤ U := by
  unfold up mx
  repeat' split
  all_goals omega
theorem co_hull {v : Bool} {k m a c e : Int} (h0 : 0 ≤ k) (h1 : k ≤ m) : m * m * lo v a c e ≤ co v k m a c e ∧ co v k m a c e ≤ m * m * up v a c e := by
  obtain ⟨b1, b2, b3⟩ := w_bd (v := v) h0 h1 (Int.le_refl m)
  obtain ⟨l1, l2, l3⟩ := lo_le (v := v) (a := a) (c := c) (e := e)
  obtain ⟨u1, u2, u3⟩ := up_ge (v := v) (a := a) (c := c) (e := e)
  unfold co
  cases v with
  | true => exact weighed b1.1 b2.1 b3.1 (w_sum true k m) ⟨l1, u1⟩ ⟨l2 rfl, u2 rfl⟩ ⟨l3, u3⟩
  | false =>
    have h := weighed (C := a) b1.1 b2.1 b3.1 (w_sum false k m) ⟨l1, u1⟩ ⟨l1, u1⟩ ⟨l3, u3⟩
    have e0 : w2 false k m = 0 := rfl
    rw [e0] at h ⊢
    rw [Int.zero_mul] at h ⊢
    exact h
theorem rnd_in {x L U : Int} {n : Nat} (h1 : ((4 ^ n : Nat) : Int) * L ≤ x) (h2 : x ≤ ((4 ^ n : Nat) : Int) * U) : L ≤ rndS x n ∧ rndS x n ≤ U := by
  have hq : 0 < ((4 ^ n : Nat) : Int) := Int.ofNat_lt.2 (Nat.pow_pos (by omega))
  unfold rndS
  generalize ((4 ^ n : Nat) : Int) = q at *
  constructor
  · refine (Int.le_ediv_iff_mul_le (by omega)).2 ?_
    have : L * (2 * q) = 2 * (q * L) := by grind
    omega
  · refine Int.lt_add_one_iff.1 ((Int.ediv_lt_iff_lt_mul (by omega)).2 ?_)
    have : (U + 1) * (2 * q) = 2 * (q * U) + 2 * q := by grind
    omega
theorem roundS_ok {a b c d e f : Int} {v : Bool} {k : Int} {n : Nat} (hg : gs a b c d e f v = true) (hn : n ≤ 10) (h0 : 0 ≤ k) (h1 : k ≤ ((2 ^ n : Nat) : Int)) :
    roundS a b c d e f v k n = (rndS (co v k ((2 ^ n : Nat) : Int) a c e) n, rndS (co v k ((2 ^ n : Nat) : Int) b d f) n, 0) := by
  unfold roundS
  rw [atS_ok hg hn h0 h1, if_pos rfl, Int.toNat_natCast]
end Go.Proofs.Ytoghjnmcimniaaa.Q.Base
namespace Go.Proofs.Ytoghjnmcimniaaa.Q.quadHull
open Go.RowKit Go.Proofs.YtoghjnmcimniaaaW.PrintWords Go.Proofs.YtoghjnmcimniaaaW.PrintLast Go.Proofs.YtoghjnmcimniaaaW.PrintMore Go.Proofs.Ytoghjnmcimniaaa.Q Go.Proofs.Ytoghjnmcimniaaa.Q.Base
set_option linter.unusedVariables false
theorem pure : calamuslaw13_QuadHull.Pure := by
  intro x a1 a2 hx k1 k2
  obtain ⟨A, B, C, D, E, F, hseg, sA, sB, sC, sD, sE, sF, hv⟩ := seg_eval _ _ _ _ _ _ x.f3 hx.1.1 hx.1.2 hx.2.1.1 hx.2.1.2 hx.2.2.1.1 hx.2.2.1.2
  obtain ⟨m, i, hm, e1, e2, e3, e4, e5, i0, i1⟩ := share (j := 11) k1 k2 (Or.inr rfl)
  have e1 : wrap64 (Int.tmod a2 11) = (m : Int) := e1
  have hm1 : m ≤ 10 := by omega
  have hp := two_pow hm1
  have hq := four_pow hm1
  have w2m : wrap64 (2 * (m : Int)) = ((2 * m : Nat) : Int) := by rw [w_id (by omega) (by omega)]; omega
  have u2m : IntKind.u64.wrap ((2 * m : Nat) : Int) = ((2 * m : Nat) : Int) := by simp [IntKind.wrap, IntKind.signed, IntKind.bits]; omega
  have s4 : shl .i64 1 ((2 * m : Nat) : Int) = ((4 ^ m : Nat) : Int) := by
    have e3 : (2 : Int) ^ (2 * m) = ((4 ^ m : Nat) : Int) := by rw [← four_two]; exact pow_cast 2 (2 * m)
    rw [shl_eval (by omega) (by rw [e3]; omega) (by rw [e3]; omega), e3, Int.one_mul]
  have n1 : 0 ≤ (m : Int) := Int.natCast_nonneg m
  have n3 : 0 ≤ ((2 * m : Nat) : Int) := Int.natCast_nonneg _
  have g0 : gs A B C D E F x.f3 = true := gs_sm sA sB sC sD sE sF
  have gb : gs E F C D A B x.f3 = true := gs_sm sE sF sC sD sA sB
  have q0 : 1 ≤ ((2 ^ m : Nat) : Int) := Int.ofNat_le.2 hp.1
  have q1 : ((2 ^ m : Nat) : Int) ≤ 1024 := Int.ofNat_le.2 hp.2
  have f0 : 1 ≤ ((4 ^ m : Nat) : Int) := Int.ofNat_le.2 hq.1
  have f1 : ((4 ^ m : Nat) : Int) ≤ 1048576 := Int.ofNat_le.2 hq.2
  clear hp hq
  have sq := sq_four m
  have wb : wrap64 (((2 ^ m : Nat) : Int) - i) = ((2 ^ m : Nat) : Int) - i := w_id (by omega) (by omega)
  have t1 := atS_ok g0 hm1 i0 i1
  have t2 := atS_ok (k := 0) g0 hm1 (by omega) (by omega)
  have t3 := atS_ok (k := ((2 ^ m : Nat) : Int)) g0 hm1 (by omega) (by omega)
  have t4 := atS_ok (k := ((2 ^ m : Nat) : Int) - i) gb hm1 (by omega) (by omega)
  have r1 := roundS_ok g0 hm1 i0 i1
  have r2 := roundS_ok (k := ((2 ^ m : Nat) : Int) - i) gb hm1 (by omega) (by omega)
  have hX := co_hull (v := x.f3) (a := A) (c := C) (e := E) i0 i1
  have hY := co_hull (v := x.f3) (a := B) (c := D) (e := F) i0 i1
  rw [co_first, co_first] at t2
  rw [co_last, co_last] at t3
  rw [co_back, co_back] at t4 r2
  rw [sq] at t2 t3 hX hY
  have rX := rnd_in hX.1 hX.2
  have rY := rnd_in hY.1 hY.2
  have m4 : ∀ y : Int, -1048576 ≤ y ∧ y ≤ 1048576 → wrap64 (((4 ^ m : Nat) : Int) * y) = ((4 ^ m : Nat) : Int) * y := by
    intro y hy
    have := mul_bd (w := ((4 ^ m : Nat) : Int)) (a := y) (W := 1048576) (M := 1048576) (by omega) f1 (by omega) (by omega)
    exact w_id (by omega) (by omega)
  have mA := m4 A sA
  have mB := m4 B sB
  have mE := m4 E sE
  have mF := m4 F sF
  have bl1 : -1048576 ≤ lo x.f3 A C E ∧ lo x.f3 A C E ≤ 1048576 := ⟨lo_bd sA.1 sC.1 sE.1, Int.le_trans lo_le.1 sA.2⟩
  have bl2 : -1048576 ≤ lo x.f3 B D F ∧ lo x.f3 B D F ≤ 1048576 := ⟨lo_bd sB.1 sD.1 sF.1, Int.le_trans lo_le.1 sB.2⟩
  have bu1 : -1048576 ≤ up x.f3 A C E ∧ up x.f3 A C E ≤ 1048576 := ⟨Int.le_trans sA.1 up_ge.1, up_bd sA.2 sC.2 sE.2⟩
  have bu2 : -1048576 ≤ up x.f3 B D F ∧ up x.f3 B D F ≤ 1048576 := ⟨Int.le_trans sB.1 up_ge.1, up_bd sB.2 sD.2 sF.2⟩
  have ml1 := m4 _ bl1
  have ml2 := m4 _ bl2
  have mu1 := m4 _ bu1
  have mu2 := m4 _ bu2
  refine ⟨22, ?_⟩
  unfold calamuslaw13_QuadHull.f
  rw [alive_yes 0]
  simp only [bs, if_true, e1, e2, e3, e4, e5, hseg]
  rw [if_pos n1, if_neg (by omega), quad_at 18, t1]
  simp only [bs]
  rw [quad_box, box_lu]
  simp only [bs]
  rw [w2m, u2m, s4, if_pos n3, wb, quad_at 18, quad_at 18, quad_at 18, quad_round 18, quad_round 18, t2, t3, t4, r1, r2]
  simp only [bs, if_true, mA, mB, mE, mF, ml1, ml2, mu1, mu2]
  rw [if_pos hX.1, if_pos hX.2, if_pos hY.1, if_pos (by simp), if_pos hY.2, if_pos (by simp), if_pos (by simp), if_pos (by simp), if_pos rX.1, if_pos rX.2, if_pos rY.1, decide_eq_true rY.2]
end Go.Proofs.Ytoghjnmcimniaaa.Q.quadHull
