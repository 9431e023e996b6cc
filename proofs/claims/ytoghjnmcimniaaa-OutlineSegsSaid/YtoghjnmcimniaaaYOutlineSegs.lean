/- The law OutlineSegs over values alone: the pieces of any contour are the document's. -/
import Derived.Test.YtoghjnmcimniaaaSOutlineSegs
import Derived.Test.YtoghjnmcimniaaaYRefSegs
import Derived.Test.YtoghjnmcimniaaaYSames
namespace Go.Proofs.Ytoghjnmcimniaaa.O.outlineSegs
open Go.RowKit Go.Proofs.YtoghjnmcimniaaaW.PrintWords Go.Proofs.YtoghjnmcimniaaaW.PrintLast Go.Proofs.YtoghjnmcimniaaaW.PrintMore Go.Proofs.Ytoghjnmcimniaaa.O Go.Proofs.Ytoghjnmcimniaaa.O.Base
set_option linter.unusedVariables false
set_option linter.unusedSimpArgs false
/-- Both make the same pieces. -/
theorem segs_both (l : List S39) (hL : l.length < 100000) (hG : ∀ k ∈ l, GK k) : ∃ ps : List S37, ps.length ≤ l.length ∧ ∃ K, ∀ k, K ≤ k → outline_Segs.f k l = some ps ∧ calamusref11_Segs.f k l = some ps := by
  by_cases h0 : l = []
  · subst h0
    refine ⟨[], by simp, 0, fun k _ => ⟨by unfold outline_Segs.f; rfl, by unfold calamusref11_Segs.f; rfl⟩⟩
  · have hn : 0 < l.length := List.length_pos_iff.2 h0
    obtain ⟨f, hf, h1, hs⟩ := segs_ok l hn (by omega) hG
    obtain ⟨g, hg, h2, K, hK⟩ := ref_segs_ok l hn hL hG
    have e : f = g := by
      rcases h1 with ⟨a1, a2⟩ | ⟨a1, a2⟩ <;> rcases h2 with ⟨b1, b2⟩ | ⟨b1, b2⟩
      · rcases Nat.lt_trichotomy f g with h | h | h
        · have := b2 f h; rw [a1] at this; cases this
        · exact h
        · have := a2 g h; rw [b1] at this; cases this
      · rw [b2] at a1; cases a1
      · rw [a2] at b1; cases b1
      · omega
    subst e
    refine ⟨pcs l (f + 2 * l.length - 1) l.length, pcs_len _ _ _, K + l.length + 1, fun k hk => ⟨?_, hK k (by omega)⟩⟩
    obtain ⟨m, rfl⟩ : ∃ m, k = m + l.length + 1 := ⟨k - l.length - 1, by omega⟩
    exact hs m
theorem pure : calamuslaw11_OutlineSegs.Pure := by
  intro l hl
  obtain ⟨_, _, hG⟩ := hl
  have hG' : ∀ k ∈ l, GK k := fun k hk => ⟨i64_bd (hG k hk).1, i64_bd (hG k hk).2.1⟩
  by_cases hlen : l.length > 5000
  · refine ⟨12, ?_⟩
    unfold calamuslaw11_OutlineSegs.f
    rw [alive_yes 0, bs, if_pos rfl, if_pos (by omega)]
  · obtain ⟨ps, hp, K1, h1⟩ := segs_both l (by omega) hG'
    obtain ⟨K2, h2⟩ := same11_ok ps (by omega)
    obtain ⟨K3, h3⟩ := same07_ok [l] (by simp) (fun x hx => by obtain rfl := List.mem_singleton.1 hx; omega)
    refine ⟨K1 + K2 + K3 + 12, ?_⟩
    unfold calamuslaw11_OutlineSegs.f
    rw [alive_yes (K1 + K2 + K3), bs, if_pos rfl, if_neg (by omega), bs, if_pos (by simp; omega), bs, List.nil_append, (h1 _ (by omega)).1, bs, (h1 _ (by omega)).2, bs, h2 _ (by omega), bs, if_pos rfl, h3 _ (by omega), bs]
end Go.Proofs.Ytoghjnmcimniaaa.O.outlineSegs
