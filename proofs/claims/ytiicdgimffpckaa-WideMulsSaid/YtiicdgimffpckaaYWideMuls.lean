/- The law WideMuls over values alone. -/
import Derived.Test.YtiicdgimffpckaaSWideMuls
import Derived.Test.YtiicdgimffpckaaYWideRefMul
namespace Go.Proofs.Ytiicdgimffpckaa.W.wideMuls
open Go.RowKit Go.Proofs.YtiicdgimffpckaaW.PrintWords Go.Proofs.YtiicdgimffpckaaW.PrintLast Go.Proofs.YtiicdgimffpckaaW.PrintMore Go.Proofs.Ytiicdgimffpckaa.W Go.Proofs.Ytiicdgimffpckaa.W.Base
set_option linter.unusedVariables false
set_option linter.unusedSimpArgs false
theorem J1 (K : Nat) {a b : Int} (ha : -9223372036854775808 ≤ a ∧ a < 9223372036854775808) (hb : -9223372036854775808 ≤ b ∧ b < 9223372036854775808) : calamuslaw01_WideMuls.j1 (K + 1) a b false = some true := by
  rw [calamuslaw01_WideMuls.j1, if_neg (by decide)]
  obtain ⟨ra, ea, hra⟩ := Small_D ha
  obtain ⟨rb, eb, hrb⟩ := Small_D hb
  obtain ⟨m, em, hm⟩ := Mul_D hra hrb
  have v1 : a % 340282366920938463463374607431768211456 = wv (if a < 0 then -1 else 0) (a % 18446744073709551616) := by unfold wv; split <;> omega
  have v2 : (a % 340282366920938463463374607431768211456) * (b % 340282366920938463463374607431768211456) % 340282366920938463463374607431768211456 = wv (a * b / 18446744073709551616) (a * b % 18446744073709551616) := by
    rw [← Int.mul_emod]
    generalize a * b = t
    unfold wv
    omega
  rw [v1] at hra
  rw [v2] at hm
  rw [Of_ok ha, bs, ea, bs, is_yes (md _) hra, bs, if_pos rfl, Mul_ok ha hb, bs, bs, eb, bs, em, bs, is_yes (md _) hm, bs]
theorem J0 (K : Nat) {a b h l : Int} (ha : -9223372036854775808 ≤ a ∧ a < 9223372036854775808) (hb : -9223372036854775808 ≤ b ∧ b < 9223372036854775808) (n : Int) (ok : Bool) (hn : n = if ok = true then wrap64 l else 0) :
    calamuslaw01_WideMuls.j0 (K + 2) a b n ok ok h l = some true := by
  subst hn
  rw [calamuslaw01_WideMuls.j0, if_neg (by cases ok <;> decide)]
  cases ok
  · rw [if_neg (by decide), if_neg (by decide)]
    exact J1 K ha hb
  · rw [if_pos rfl, if_pos rfl, if_pos rfl]
    exact J1 K ha hb
theorem pure : calamuslaw01_WideMuls.Pure := by
  intro a b x ha hb hx
  obtain ⟨h, l⟩ := x
  have ha := i64_bd ha
  have hb := i64_bd hb
  have hh := i64_bd hx.1
  have hl := u64_bd hx.2
  simp only at hh hl
  refine ⟨0 + 80, ?_⟩
  show calamuslaw01_WideMuls.f (0 + 80) a b h l = some true
  unfold calamuslaw01_WideMuls.f
  rw [alive_yes 0, bs, if_pos rfl]
  unfold calamuslaw01_Two_own.f
  rw [bs, Small_ok hh hl, bs]
  have hw : wrap64 l = if l < 9223372036854775808 then l else l - 18446744073709551616 := by unfold wrap64; omega
  have hc : (h = wrap64 l / 9223372036854775808) ↔ (h = 0 ∧ l < 9223372036854775808) ∨ (h = -1 ∧ l ≥ 9223372036854775808) := by rw [hw]; split <;> omega
  by_cases h1 : h = 0
  · rw [if_pos h1]
    by_cases h2 : l < 9223372036854775808
    · rw [if_pos h2, if_pos (hc.mpr (Or.inl ⟨h1, h2⟩))]
      exact J0 78 ha hb _ true rfl
    · rw [if_neg h2, if_neg (show ¬ h = -1 by omega), if_neg (fun c => by have := hc.mp c; omega)]
      exact J0 78 ha hb _ false rfl
  · rw [if_neg h1]
    by_cases h2 : h = -1
    · rw [if_pos h2]
      by_cases h3 : l ≥ 9223372036854775808
      · rw [decide_eq_true h3, if_pos (hc.mpr (Or.inr ⟨h2, h3⟩))]
        exact J0 78 ha hb _ true rfl
      · rw [decide_eq_false h3, if_neg (fun c => by have := hc.mp c; omega)]
        exact J0 78 ha hb _ false rfl
    · rw [if_neg h2, if_neg (fun c => by have := hc.mp c; omega)]
      exact J0 78 ha hb _ false rfl
end Go.Proofs.Ytiicdgimffpckaa.W.wideMuls
