/- The law QuadSplits over values alone: the halves of any piece are the document's. -/
import Derived.Test.YtoghjnmcimniaaaSQuadSplits
import Derived.Test.YtoghjnmcimniaaaYQuadAlive
namespace Go.Proofs.Ytoghjnmcimniaaa.Q.Base
open Go.RowKit Go.Proofs.YtoghjnmcimniaaaW.PrintWords Go.Proofs.YtoghjnmcimniaaaW.PrintLast Go.Proofs.YtoghjnmcimniaaaW.PrintMore Go.Proofs.Ytoghjnmcimniaaa.Q
set_option linter.unusedVariables false
def nr (x y : Int) : Bool := decide (-1048576 ≤ x ∧ x ≤ 1048576 ∧ -1048576 ≤ y ∧ y ≤ 1048576)
theorem nr_iff {x y : Int} : nr x y = true ↔ (-1048576 ≤ x ∧ x ≤ 1048576 ∧ -1048576 ≤ y ∧ y ≤ 1048576) := by simp [nr]
theorem ref_nr (x y : Int) : calamusref13_near.f x y = some (nr x y) := by
  unfold calamusref13_near.f nr
  by_cases h1 : x ≥ -1048576
  · rw [if_pos h1]
    by_cases h2 : x ≤ 1048576
    · rw [if_pos h2]
      by_cases h3 : y ≥ -1048576
      · rw [if_pos h3]
        congr 1
        rw [decide_eq_decide]
        omega
      · rw [if_neg h3, decide_eq_false (by omega)]
    · rw [if_neg h2, decide_eq_false (by omega)]
  · rw [if_neg h1, decide_eq_false (by omega)]
theorem near_step (k : Nat) (l : List S33) (n i : Nat) (hi : i < n) (hn : n = l.length) (hs : n < 1000) :
    quad_near.l0 (k + 1) l n i = if nr (l.getD i z33).f0 (l.getD i z33).f1 = true then quad_near.l0 k l n ((i + 1 : Nat) : Int) else some false := by
  simp only [quad_near.l0]
  rw [if_pos (by omega), if_pos (by omega), if_pos (by omega), w_id (by omega) (by omega)]
  have e : rd_T33 l (i : Int) = l.getD i z33 := by simp [rd_T33]
  rw [e]
  generalize l.getD i z33 = p
  by_cases h : nr p.f0 p.f1 = true
  · rw [if_pos h]
    obtain ⟨h1, h2, h3, h4⟩ := nr_iff.1 h
    rw [if_neg (by omega), if_neg (by omega), if_neg (by omega), if_neg (by omega)]
    norm_cast
  · rw [if_neg h]
    have h' : ¬ (-1048576 ≤ p.f0 ∧ p.f0 ≤ 1048576 ∧ -1048576 ≤ p.f1 ∧ p.f1 ≤ 1048576) := fun x => h (nr_iff.2 x)
    repeat' split
    all_goals first | rfl | (exfalso; omega)
theorem near_end (k : Nat) (l : List S33) (n : Nat) : quad_near.l0 (k + 1) l n n = some true := by
  simp only [quad_near.l0]
  rw [if_neg (by omega)]
theorem near3 (k : Nat) (a b c d e f : Int) : quad_near.f (k + 4) [⟨a, b⟩, ⟨c, d⟩, ⟨e, f⟩] = some (nr a b && nr c d && nr e f) := by
  unfold quad_near.f
  show quad_near.l0 (k + 3 + 1) _ ((3 : Nat) : Int) ((0 : Nat) : Int) = _
  rw [near_step _ _ 3 0 (by omega) rfl (by omega), near_step _ _ 3 1 (by omega) rfl (by omega), near_step _ _ 3 2 (by omega) rfl (by omega), near_end]
  simp only [List.getD_cons_zero, List.getD_cons_succ]
  cases nr a b <;> cases nr c d <;> cases nr e f <;> rfl
/-- The halves: both texts come to one thing. -/
def splS (a b c d e f : Int) (v : Bool) : Int × Int × Int × Int × Int × Int × Bool × Int × Int × Int × Int × Int × Int × Bool × Int :=
  if v = true then if (nr a b && nr e f && nr c d) = true then
      (wrap64 (wrap64 (wrap64 (4 * a) + wrap64 (0 * c)) + wrap64 (0 * e)), wrap64 (wrap64 (wrap64 (4 * b) + wrap64 (0 * d)) + wrap64 (0 * f)),
       wrap64 (wrap64 (wrap64 (2 * a) + wrap64 (2 * c)) + wrap64 (0 * e)), wrap64 (wrap64 (wrap64 (2 * b) + wrap64 (2 * d)) + wrap64 (0 * f)),
       wrap64 (wrap64 (wrap64 (1 * a) + wrap64 (2 * c)) + wrap64 (1 * e)), wrap64 (wrap64 (wrap64 (1 * b) + wrap64 (2 * d)) + wrap64 (1 * f)), true,
       wrap64 (wrap64 (wrap64 (1 * a) + wrap64 (2 * c)) + wrap64 (1 * e)), wrap64 (wrap64 (wrap64 (1 * b) + wrap64 (2 * d)) + wrap64 (1 * f)),
       wrap64 (wrap64 (wrap64 (0 * a) + wrap64 (2 * c)) + wrap64 (2 * e)), wrap64 (wrap64 (wrap64 (0 * b) + wrap64 (2 * d)) + wrap64 (2 * f)),
       wrap64 (wrap64 (wrap64 (0 * a) + wrap64 (0 * c)) + wrap64 (4 * e)), wrap64 (wrap64 (wrap64 (0 * b) + wrap64 (0 * d)) + wrap64 (4 * f)), true, 0)
    else (0, 0, 0, 0, 0, 0, false, 0, 0, 0, 0, 0, 0, false, 6)
  else if (nr a b && nr e f) = true then
      (wrap64 (wrap64 (wrap64 (4 * a) + wrap64 (0 * 0)) + wrap64 (0 * e)), wrap64 (wrap64 (wrap64 (4 * b) + wrap64 (0 * 0)) + wrap64 (0 * f)), 0, 0,
       wrap64 (wrap64 (wrap64 (2 * a) + wrap64 (0 * 0)) + wrap64 (2 * e)), wrap64 (wrap64 (wrap64 (2 * b) + wrap64 (0 * 0)) + wrap64 (2 * f)), false,
       wrap64 (wrap64 (wrap64 (2 * a) + wrap64 (0 * 0)) + wrap64 (2 * e)), wrap64 (wrap64 (wrap64 (2 * b) + wrap64 (0 * 0)) + wrap64 (2 * f)), 0, 0,
       wrap64 (wrap64 (wrap64 (0 * a) + wrap64 (0 * 0)) + wrap64 (4 * e)), wrap64 (wrap64 (wrap64 (0 * b) + wrap64 (0 * 0)) + wrap64 (4 * f)), false, 0)
  else (0, 0, 0, 0, 0, 0, false, 0, 0, 0, 0, 0, 0, false, 6)
theorem nr00 : nr 0 0 = true := by decide
theorem quad_split (K : Nat) (a b c d e f : Int) (v : Bool) : quad_Split.f (K + 5) a b c d e f v = some (splS a b c d e f v) := by
  unfold quad_Split.f splS
  cases v with
  | true =>
    rw [if_pos rfl, if_pos rfl, show K + 5 = (K + 4) + 1 from rfl, quad_Split.j0, near3]
    cases h : (nr a b && nr e f && nr c d) <;> simp [quad_mix.f]
  | false =>
    rw [if_neg (by simp), if_neg (by simp), show K + 5 = (K + 4) + 1 from rfl, quad_Split.j0, near3, nr00]
    cases h : (nr a b && nr e f) <;> simp [quad_mix.f]
theorem ref_split (K : Nat) (a b c d e f : Int) (v : Bool) : calamusref13_Split.f (K + 1) a b c d e f v = some (splS a b c d e f v) := by
  unfold calamusref13_Split.f splS
  rw [ref_nr, ref_nr, ref_nr]
  cases v with
  | true =>
    rw [if_pos rfl]
    cases h1 : nr a b <;> cases h2 : nr e f <;> cases h3 : nr c d <;> simp [calamusref13_Split.j0, calamusref13_point.f]
  | false =>
    rw [if_neg (by simp)]
    cases h1 : nr a b <;> cases h2 : nr e f <;> simp [calamusref13_Split.j0, calamusref13_point.f]
end Go.Proofs.Ytoghjnmcimniaaa.Q.Base
namespace Go.Proofs.Ytoghjnmcimniaaa.Q.quadSplits
open Go.RowKit Go.Proofs.YtoghjnmcimniaaaW.PrintWords Go.Proofs.YtoghjnmcimniaaaW.PrintLast Go.Proofs.Ytoghjnmcimniaaa.Q Go.Proofs.Ytoghjnmcimniaaa.Q.Base
theorem pure : calamuslaw13_QuadSplits.Pure := by
  intro x _
  refine ⟨22, ?_⟩
  unfold calamuslaw13_QuadSplits.f
  rw [alive_yes 0]
  simp only [bs, if_true]
  rw [quad_split 17, ref_split 21]
  simp
end Go.Proofs.Ytoghjnmcimniaaa.Q.quadSplits
