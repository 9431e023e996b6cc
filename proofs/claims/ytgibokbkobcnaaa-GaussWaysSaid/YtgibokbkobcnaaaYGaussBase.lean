/- gauss (layer 10) over whole numbers: which points are good; the document's products; its examples hold. -/
import Derived.Test.YtgibokbkobcnaaaGd0
namespace Go.Proofs.Ytgibokbkobcnaaa.G.Base
open Go.RowKit Go.Proofs.YtgibokbkobcnaaaW.PrintWords Go.Proofs.YtgibokbkobcnaaaW.PrintLast Go.Proofs.YtgibokbkobcnaaaW.PrintMore Go.Proofs.Ytgibokbkobcnaaa.G
set_option linter.unusedVariables false
set_option linter.unusedSimpArgs false

theorem bs {α β : Type} (a : α) (f : α → Option β) : (some a).bind f = f a := by
  cases h : f a <;> simp [h]
theorem w_id {x : Int} (h1 : -9223372036854775808 ≤ x) (h2 : x < 9223372036854775808) : wrap64 x = x := gauss_Cross.w_id h1 h2
abbrev gd := gauss_Cross.gd
theorem alive_yes (K : Nat) : calamuslaw10_alive.f (K + 12) = some true := by
  have h : calamuslaw10_alive.f 12 = some true := by decide +kernel
  exact at_rounds (fun k => calamuslaw10_alive.mono k) (by omega) h
theorem good0 (k : Nat) : gauss_Good.f (k + 1) [] = some true := by
  unfold gauss_Good.f
  exact gauss_Cross.good_end k [] 0
theorem ref_gd (x y : Int) : calamusref10_Good.f x y = some (gauss_Cross.gd x y) := by
  unfold calamusref10_Good.f gauss_Cross.gd
  by_cases h1 : x ≥ -4194304
  · rw [if_pos h1]
    by_cases h2 : x ≤ 4194304
    · rw [if_pos h2]
      by_cases h3 : y ≥ -4194304
      · rw [if_pos h3]
        congr 1
        rw [decide_eq_decide]
        omega
      · rw [if_neg h3, decide_eq_false (by omega)]
    · rw [if_neg h2, decide_eq_false (by omega)]
  · rw [if_neg h1, decide_eq_false (by omega)]
def Bd (x : Int) : Prop := -4194304 ≤ x ∧ x ≤ 4194304
theorem mul_bd {x y : Int} (hx : Bd x) (hy : Bd y) : -17592186044416 ≤ x * y ∧ x * y ≤ 17592186044416 := by
  have h1 : x.natAbs ≤ 4194304 := by unfold Bd at hx; omega
  have h2 : y.natAbs ≤ 4194304 := by unfold Bd at hy; omega
  have := Nat.mul_le_mul h1 h2
  have e : (x * y).natAbs = x.natAbs * y.natAbs := Int.natAbs_mul x y
  omega
theorem bd_of {x y : Int} (h : gauss_Cross.gd x y = true) : Bd x ∧ Bd y := by
  have := gauss_Cross.gd_iff.1 h
  exact ⟨⟨this.1, this.2.1⟩, this.2.2⟩
theorem ref_cross {a b c d : Int} (ha : Bd a) (hb : Bd b) (hc : Bd c) (hd : Bd d) : calamusref10_Cross.f a b c d = some (a * d - b * c) := by
  have h1 := mul_bd ha hd
  have h2 := mul_bd hb hc
  unfold calamusref10_Cross.f
  rw [w_id (x := a * d) (by omega) (by omega), w_id (x := b * c) (by omega) (by omega), w_id (by omega) (by omega)]
theorem ref_dot {a b c d : Int} (ha : Bd a) (hb : Bd b) (hc : Bd c) (hd : Bd d) : calamusref10_Dot.f a b c d = some (a * c + b * d) := by
  have h1 := mul_bd ha hc
  have h2 := mul_bd hb hd
  unfold calamusref10_Dot.f
  rw [w_id (x := a * c) (by omega) (by omega), w_id (x := b * d) (by omega) (by omega), w_id (by omega) (by omega)]
theorem bd_neg {x : Int} (h : Bd x) : Bd (-x) := by unfold Bd at *; omega
theorem w_neg {x : Int} (h : Bd x) : wrap64 (-x) = -x := by unfold Bd at h; rw [w_id] <;> omega
end Go.Proofs.Ytgibokbkobcnaaa.G.Base
