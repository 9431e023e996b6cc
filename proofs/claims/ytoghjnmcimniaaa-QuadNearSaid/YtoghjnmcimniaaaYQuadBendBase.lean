/- How far a piece bends, how often it is halved: both texts come to one thing; at most nine times. -/
import Derived.Test.YtoghjnmcimniaaaYQuadPiece
namespace Go.Proofs.Ytoghjnmcimniaaa.Q.Base
open Go.RowKit Go.Proofs.YtoghjnmcimniaaaW.PrintWords Go.Proofs.YtoghjnmcimniaaaW.PrintLast Go.Proofs.YtoghjnmcimniaaaW.PrintMore Go.Proofs.Ytoghjnmcimniaaa.Q
set_option linter.unusedVariables false
def ab (x : Int) : Int := if x < 0 then -x else x
def bx (a c e : Int) : Int := a - 2 * c + e
def bendS (a b c d e f : Int) (v : Bool) : Int := if v = true then if gs a b c d e f v = true then mx (ab (bx a c e)) (ab (bx b d f)) else 0 else 0
theorem mix_bend {a b c d e f : Int} {v : Bool} (ha : -4194304 ≤ a ∧ a ≤ 4194304) (hc : -4194304 ≤ c ∧ c ≤ 4194304) (he : -4194304 ≤ e ∧ e ≤ 4194304)
    (hb : -4194304 ≤ b ∧ b ≤ 4194304) (hd : -4194304 ≤ d ∧ d ≤ 4194304) (hf : -4194304 ≤ f ∧ f ≤ 4194304) : quad_mix.f a b c d e f v 1 (-2) 1 = some (bx a c e, bx b d f) := by
  have key : ∀ x y z : Int, -4194304 ≤ x ∧ x ≤ 4194304 → -4194304 ≤ y ∧ y ≤ 4194304 → -4194304 ≤ z ∧ z ≤ 4194304 → wrap64 (wrap64 (wrap64 (1 * x) + wrap64 (-2 * y)) + wrap64 (1 * z)) = bx x y z := by
    intro x y z hx hy hz
    rw [w_id (x := 1 * x) (by omega) (by omega), w_id (x := -2 * y) (by omega) (by omega), w_id (x := 1 * z) (by omega) (by omega), w_id (x := 1 * x + -2 * y) (by omega) (by omega), w_id (by omega) (by omega)]
    unfold bx
    omega
  unfold quad_mix.f
  rw [key a c e ha hc he, key b d f hb hd hf]
theorem bx_bd {a c e : Int} (ha : -4194304 ≤ a ∧ a ≤ 4194304) (hc : -4194304 ≤ c ∧ c ≤ 4194304) (he : -4194304 ≤ e ∧ e ≤ 4194304) : -16777216 ≤ bx a c e ∧ bx a c e ≤ 16777216 := by
  unfold bx
  omega
theorem bend_le (a b c d e f : Int) (v : Bool) : 0 ≤ bendS a b c d e f v ∧ bendS a b c d e f v ≤ 16777216 := by
  unfold bendS
  split
  · rename_i hv
    split
    · rename_i hg
      obtain ⟨ha, hb, he, hf, hcd⟩ := gs_bd hg
      have h1 := bx_bd ha (hcd hv).1 he
      have h2 := bx_bd hb (hcd hv).2 hf
      unfold mx ab
      repeat' split
      all_goals omega
    · omega
  · omega
theorem quad_bend (K : Nat) (a b c d e f : Int) (v : Bool) : quad_Bend.f (K + 3) a b c d e f v = some (bendS a b c d e f v) := by
  unfold quad_Bend.f bendS
  by_cases hv : v = true
  · rw [if_pos hv, if_pos hv, quad_gs]
    simp only [bs]
    by_cases hg : gs a b c d e f v = true
    · rw [if_pos hg, if_pos hg]
      obtain ⟨ha, hb, he, hf, hcd⟩ := gs_bd hg
      rw [mix_bend ha (hcd hv).1 he hb (hcd hv).2 hf]
      have h1 := bx_bd ha (hcd hv).1 he
      have h2 := bx_bd hb (hcd hv).2 hf
      simp only [bs]
      rw [w_id (by omega) (by omega), w_id (by omega) (by omega)]
      generalize bx a c e = x at *
      generalize bx b d f = y at *
      congr 1
      unfold mx ab
      repeat' split
      all_goals omega
    · rw [if_neg hg, if_neg hg]
  · rw [if_neg hv, if_neg hv]
theorem abs_eval {x : Int} (h1 : -9223372036854775807 ≤ x) (h2 : x ≤ 9223372036854775807) : calamusref13_Abs.f x = some (ab x) := by
  unfold calamusref13_Abs.f ab
  split
  · rw [w_id (by omega) (by omega)]
  · rfl
theorem ref_bend (K : Nat) (a b c d e f : Int) (v : Bool) : calamusref13_Bend.f (K + 1) a b c d e f v = some (bendS a b c d e f v) := by
  unfold calamusref13_Bend.f bendS
  by_cases hv : v = true
  · rw [if_pos hv, if_pos hv, ref_gs]
    simp only [bs]
    by_cases hg : gs a b c d e f v = true
    · rw [hg, if_pos rfl, calamusref13_Bend.j0, if_neg (by simp), mix_point]
      obtain ⟨ha, hb, he, hf, hcd⟩ := gs_bd hg
      rw [mix_bend ha (hcd hv).1 he hb (hcd hv).2 hf]
      have h1 := bx_bd ha (hcd hv).1 he
      have h2 := bx_bd hb (hcd hv).2 hf
      simp only [bs]
      rw [abs_eval (by omega) (by omega), abs_eval (by omega) (by omega)]
      simp only [bs]
    · rw [if_neg hg, Bool.eq_false_iff.2 hg]
      rfl
  · rw [if_neg hv, if_neg hv]
    rfl
theorem steps_loop (b : Int) (hb : b ≤ 16777216) (A B C D E F : Int) (v : Bool) (hbe : ∀ k, calamusref13_Bend.f (k + 1) A B C D E F v = some b) (K : Nat) :
    ∀ (d i : Nat), i + d = 9 → ∃ n : Nat, i ≤ n ∧ n ≤ 9 ∧ quad_Steps.l0 (K + d + 1) i b = some (n : Int) ∧ calamusref13_Steps.l0 (K + d + 22) i A B C D E F v = some (n : Int) ∧ b ≤ 64 * ((4 ^ n : Nat) : Int) ∧ (∀ j : Nat, i ≤ j → j < n → 64 * ((4 ^ j : Nat) : Int) < b) := by
  have hstep : ∀ (k i : Nat), i ≤ 9 → quad_Steps.l0 (k + 1) i b = if b > 64 * ((4 ^ i : Nat) : Int) then quad_Steps.l0 k ((i + 1 : Nat) : Int) b else some (i : Int) := by
    intro k i hi
    have hq := four_pow (n := i) (by omega)
    have e3 : (2 : Int) ^ (2 * i) = ((4 ^ i : Nat) : Int) := by rw [← four_two]; exact pow_cast 2 (2 * i)
    have e2 : 2 * (i : Int) = ((2 * i : Nat) : Int) := by omega
    have hq1 : ((4 ^ i : Nat) : Int) ≤ 1048576 := Int.ofNat_le.2 hq.2
    have hq0 : (0 : Int) ≤ ((4 ^ i : Nat) : Int) := Int.natCast_nonneg _
    rw [quad_Steps.l0]
    rw [w_id (x := 2 * (i : Int)) (by omega) (by omega), if_pos (by omega), e2, shl_eval (by omega) (by rw [e3]; omega) (by rw [e3]; omega), e3, w_id (by omega) (by omega)]
    rfl
  have rstep : ∀ (k i : Nat), i ≤ 9 → calamusref13_Steps.l0 (k + 21 + 1) i A B C D E F v = if b > 64 * ((4 ^ i : Nat) : Int) then calamusref13_Steps.l0 (k + 21) ((i + 1 : Nat) : Int) A B C D E F v else some (i : Int) := by
    intro k i hi
    have hq := four_pow (n := i) (by omega)
    have hq1 : ((4 ^ i : Nat) : Int) ≤ 1048576 := Int.ofNat_le.2 hq.2
    have hq0 : (0 : Int) ≤ ((4 ^ i : Nat) : Int) := Int.natCast_nonneg _
    have hp := pow_eval 4 i (by omega) (by omega) k
    have hp' : calamusref13_Power.f (k + 21) 4 i = some ((4 ^ i : Nat) : Int) := hp
    rw [calamusref13_Steps.l0, hbe (k + 20), hp']
    simp only [bs]
    rw [w_id (x := 64 * ((4 ^ i : Nat) : Int)) (by omega) (by omega), w_id (by omega) (by omega)]
    rfl
  intro d
  induction d with
  | zero =>
    intro i hi
    have hi9 : i = 9 := by omega
    subst hi9
    have e : 64 * ((4 ^ 9 : Nat) : Int) = 16777216 := by decide
    refine ⟨9, by omega, by omega, ?_, ?_, by rw [e]; exact hb, fun j h1 h2 => by omega⟩
    · rw [hstep _ 9 (by omega), if_neg (by rw [e]; omega)]
    · rw [show K + 0 + 22 = K + 21 + 1 from rfl, rstep _ 9 (by omega), if_neg (by rw [e]; omega)]
  | succ d ih =>
    intro i hi
    by_cases h : b > 64 * ((4 ^ i : Nat) : Int)
    · obtain ⟨n, h1, h2, h3, h4, h5, h6⟩ := ih (i + 1) (by omega)
      refine ⟨n, by omega, h2, ?_, ?_, h5, fun j g1 g2 => ?_⟩
      · rw [show K + (d + 1) + 1 = (K + d + 1) + 1 by omega, hstep _ i (by omega), if_pos h]
        exact h3
      · rw [show K + (d + 1) + 22 = (K + d + 1) + 21 + 1 by omega, rstep _ i (by omega), if_pos h, show K + d + 1 + 21 = K + d + 22 by omega]
        exact h4
      · by_cases hj : j = i
        · subst hj; exact h
        · exact h6 j (by omega) g2
    · refine ⟨i, by omega, by omega, ?_, ?_, by omega, fun j g1 g2 => by omega⟩
      · rw [hstep _ i (by omega), if_neg h]
      · rw [show K + (d + 1) + 22 = (K + d + 1) + 21 + 1 by omega, rstep _ i (by omega), if_neg h]
/-- How often a piece is halved: both texts' number, and what it is good for. -/
theorem steps_both (a b c d e f : Int) (v : Bool) : ∃ n : Nat, n ≤ 9 ∧ (∀ K, quad_Steps.f (K + 13) a b c d e f v = some (n : Int)) ∧ (∀ K, calamusref13_Steps.f (K + 31) a b c d e f v = some (n : Int)) ∧
    bendS a b c d e f v ≤ 64 * ((4 ^ n : Nat) : Int) ∧ (∀ j : Nat, j < n → 64 * ((4 ^ j : Nat) : Int) < bendS a b c d e f v) := by
  have hl := bend_le a b c d e f v
  obtain ⟨n, _, h2, h3, h4, h5, h6⟩ := steps_loop _ hl.2 a b c d e f v (fun k => ref_bend k a b c d e f v) 0 9 0 (by omega)
  refine ⟨n, h2, fun K => ?_, fun K => ?_, h5, fun j hj => h6 j (by omega) hj⟩
  · unfold quad_Steps.f
    rw [show K + 13 = (K + 10) + 3 from rfl, quad_bend]
    simp only [bs]
    exact at_rounds (g := fun k => quad_Steps.l0 k ((0 : Nat) : Int) _) (fun k => quad_Steps.mono_l k _ _) (k := 0 + 9 + 1) (by omega) h3
  · unfold calamusref13_Steps.f
    exact at_rounds (g := fun k => calamusref13_Steps.l0 k ((0 : Nat) : Int) a b c d e f v) (fun k => calamusref13_Steps.mono_l k _ _ _ _ _ _ _ _) (k := 0 + 9 + 22) (by omega) h4
end Go.Proofs.Ytoghjnmcimniaaa.Q.Base
