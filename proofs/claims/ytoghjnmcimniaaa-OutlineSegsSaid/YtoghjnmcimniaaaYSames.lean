/- calamusref11.Same and calamusref07.Same say yes of what is the same. -/
import Derived.Test.YtoghjnmcimniaaaYSegsChain
namespace Go.Proofs.Ytoghjnmcimniaaa.O.Base
open Go.RowKit Go.Proofs.YtoghjnmcimniaaaW.PrintWords Go.Proofs.YtoghjnmcimniaaaW.PrintLast Go.Proofs.YtoghjnmcimniaaaW.PrintMore Go.Proofs.Ytoghjnmcimniaaa.O
set_option linter.unusedVariables false
set_option linter.unusedSimpArgs false
theorem same11_ok (a : List S37) (ha : a.length < 1000000) : ∃ K, ∀ k, K ≤ k → calamusref11_Same.f k a a = some true := by
  have key : ∀ (d i : Nat), i + d = a.length → ∀ k, calamusref11_Same.l0 (k + d + 1) a a a.length i = some true := by
    intro d
    induction d with
    | zero =>
      intro i hi k
      simp only [calamusref11_Same.l0]
      rw [if_neg (by omega)]
    | succ d ih =>
      intro i hi k
      have hw : wrap64 ((i : Int) + 1) = ((i + 1 : Nat) : Int) := by rw [w_id] <;> omega
      have hk := ih (i + 1) (by omega) k
      rw [show k + (d + 1) + 1 = (k + d + 1) + 1 by omega]
      generalize k + d + 1 = m at hk
      simp only [calamusref11_Same.l0]
      rw [if_pos (by omega), if_pos (by omega), if_pos (by omega), if_pos (by omega), if_neg (by simp), hw, hk]
  refine ⟨a.length + 1, fun k hk => ?_⟩
  obtain ⟨m, rfl⟩ : ∃ m, k = m + a.length + 1 := ⟨k - a.length - 1, by omega⟩
  unfold calamusref11_Same.f
  rw [if_pos rfl]
  exact key a.length 0 (by omega) m
theorem same07_ok (a : List (List S39)) (ha : a.length < 1000000) (hb : ∀ x ∈ a, x.length < 1000000) : ∃ K, ∀ k, K ≤ k → calamusref07_Same.f k a a = some true := by
  have inner : ∀ (i : Nat) (hi : i < a.length) (K : Nat), (∀ k, K ≤ k → calamusref07_Same.l0 k a a a.length ((i + 1 : Nat) : Int) = some true) → ∀ (d j : Nat), j + d = (a.getD i []).length →
      ∀ k, K + d + 1 ≤ k → calamusref07_Same.l1 k a a i a.length i (a.getD i []).length j = some true := by
    intro i hi K hK d
    have hlen : (a.getD i []).length < 1000000 := by
      rw [List.getD_eq_getElem?_getD, List.getElem?_eq_getElem hi]
      exact hb _ (List.getElem_mem hi)
    induction d with
    | zero =>
      intro j hj k hk
      obtain ⟨k, rfl⟩ : ∃ m, k = m + 1 := ⟨k - 1, by omega⟩
      have hw : wrap64 ((i : Int) + 1) = ((i + 1 : Nat) : Int) := by rw [w_id] <;> omega
      simp only [calamusref07_Same.l1]
      rw [if_neg (by omega), hw]
      exact hK k (by omega)
    | succ d ih =>
      intro j hj k hk
      obtain ⟨k, rfl⟩ : ∃ m, k = m + 1 := ⟨k - 1, by omega⟩
      have hw : wrap64 ((j : Int) + 1) = ((j + 1 : Nat) : Int) := by rw [w_id] <;> omega
      have hr : rd_L5 a (i : Int) = a.getD i [] := by
        show a.getD (i : Int).toNat _ = _
        rw [Int.toNat_natCast]
      simp only [calamusref07_Same.l1]
      rw [hr, if_pos (by omega), if_pos (by omega), if_pos (by omega), if_pos (by omega), if_pos (by omega), if_pos (by omega), if_pos (by omega), if_neg (by simp), hw]
      exact ih (j + 1) (by omega) k (by omega)
  have outer : ∀ (d i : Nat), i + d = a.length → ∃ K, ∀ k, K ≤ k → calamusref07_Same.l0 k a a a.length i = some true := by
    intro d
    induction d with
    | zero =>
      intro i hi
      refine ⟨1, fun k hk => ?_⟩
      obtain ⟨k, rfl⟩ : ∃ m, k = m + 1 := ⟨k - 1, by omega⟩
      simp only [calamusref07_Same.l0]
      rw [if_neg (by omega)]
    | succ d ih =>
      intro i hi
      obtain ⟨K, hK⟩ := ih (i + 1) (by omega)
      refine ⟨K + (a.getD i []).length + 2, fun k hk => ?_⟩
      obtain ⟨k, rfl⟩ : ∃ m, k = m + 1 := ⟨k - 1, by omega⟩
      have hr : rd_L5 a (i : Int) = a.getD i [] := by
        show a.getD (i : Int).toNat _ = _
        rw [Int.toNat_natCast]
      simp only [calamusref07_Same.l0]
      rw [hr, if_pos (by omega), if_pos (by omega), if_pos (by omega), if_pos (by omega), if_pos trivial]
      exact inner i (by omega) K hK (a.getD i []).length 0 (by omega) k (by omega)
  obtain ⟨K, hK⟩ := outer a.length 0 (by omega)
  refine ⟨K, fun k hk => ?_⟩
  unfold calamusref07_Same.f
  rw [if_pos rfl]
  exact hK k hk
end Go.Proofs.Ytoghjnmcimniaaa.O.Base
