/- The law OutlineCloses over values alone: the pieces of any contour close, none is a point alone, each knot on the curve is an end. -/
import Derived.Test.YtoghjnmcimniaaaSOutlineCloses
import Derived.Test.YtoghjnmcimniaaaYSegsChain
namespace Go.Proofs.Ytoghjnmcimniaaa.O.outlineCloses
open Go.RowKit Go.Proofs.YtoghjnmcimniaaaW.PrintWords Go.Proofs.YtoghjnmcimniaaaW.PrintLast Go.Proofs.YtoghjnmcimniaaaW.PrintMore Go.Proofs.Ytoghjnmcimniaaa.O Go.Proofs.Ytoghjnmcimniaaa.O.Base
set_option linter.unusedVariables false

theorem rd37 (l : List S37) (i : Nat) (h : i < l.length) : rd_T37 l (i : Int) = l[i] := by
  show l.getD (i : Int).toNat _ = _
  rw [Int.toNat_natCast, List.getD_eq_getElem?_getD, List.getElem?_eq_getElem h]
  rfl
theorem rd39 (l : List S39) (i : Nat) (h : i < l.length) : rd_T39 l (i : Int) = at_ l i := by
  show l.getD (i : Int).toNat _ = _
  rw [Int.toNat_natCast, at_get l i h]
theorem wn (i : Nat) (h : i < 1000000) : wrap64 ((i : Int) + 1) = ((i + 1 : Nat) : Int) := by rw [w_id] <;> omega
theorem pt_eq (a b : S33) : (a.f0 == b.f0 && a.f1 == b.f1) = decide (a = b) := by
  rw [Bool.eq_iff_iff]
  simp only [Bool.and_eq_true, beq_iff_eq, decide_eq_true_eq]
  exact ⟨fun ⟨h1, h2⟩ => by cases a; cases b; simp_all, fun h => by subst h; exact ⟨rfl, rfl⟩⟩

theorem l2_ok (l : List S39) (ps : List S37) (hL : l.length < 1000000) (hP : ps.length < 1000000) (i : Nat) (a b : Int) (c : Bool) (K : Nat) (hi : i < l.length)
    (hK : ∀ k, K ≤ k → calamuslaw11_OutlineCloses.l1 k ps l l.length ((i + 1 : Nat) : Int) = some true) :
    ∀ (d j : Nat) (x8 : Bool), j + d = ps.length → (x8 = true ∨ ∃ s ∈ ps.drop j, s.f0 = (⟨a, b⟩ : S33)) → ∀ k, K + d + 1 ≤ k → calamuslaw11_OutlineCloses.l2 k ps x8 l l.length i ps ps.length j a b c = some true := by
  intro d
  induction d with
  | zero =>
    intro j x8 hj hx k hk
    obtain ⟨k, rfl⟩ : ∃ m, k = m + 1 := ⟨k - 1, by omega⟩
    have hx8 : x8 = true := by
      rcases hx with h | ⟨s, hs, _⟩
      · exact h
      · rw [List.drop_of_length_le (by omega)] at hs
        cases hs
    simp only [calamuslaw11_OutlineCloses.l2]
    rw [if_neg (by omega), if_pos hx8, wn i (by omega)]
    exact hK k (by omega)
  | succ d ih =>
    intro j x8 hj hx k hk
    obtain ⟨k, rfl⟩ : ∃ m, k = m + 1 := ⟨k - 1, by omega⟩
    have hlt : j < ps.length := by omega
    simp only [calamuslaw11_OutlineCloses.l2]
    rw [if_pos (by omega), if_pos (by omega), if_pos (by omega), wn j (by omega), rd37 ps j hlt]
    by_cases h8 : x8 = true
    · rw [if_pos h8]
      exact ih (j + 1) true (by omega) (.inl rfl) k (by omega)
    · rw [if_neg h8]
      refine ih (j + 1) _ (by omega) ?_ k (by omega)
      rcases hx with h | ⟨s, hs, he⟩
      · exact absurd h h8
      · rw [List.drop_eq_getElem_cons hlt] at hs
        rcases List.mem_cons.1 hs with rfl | hs
        · refine .inl ?_
          rw [he]
          simp
        · exact .inr ⟨s, hs, he⟩
theorem l1_ok (l : List S39) (ps : List S37) (hL : l.length < 1000000) (hP : ps.length < 1000000) (hon : ∀ j, (at_ l j).f2 = true → ps = [] ∨ ∃ s ∈ ps, s.f0 = pl (at_ l j)) :
    ∀ (d i : Nat), i + d = l.length → ∃ K, ∀ k, K ≤ k → calamuslaw11_OutlineCloses.l1 k ps l l.length i = some true := by
  intro d
  induction d with
  | zero =>
    intro i hi
    refine ⟨1, fun k hk => ?_⟩
    obtain ⟨k, rfl⟩ : ∃ m, k = m + 1 := ⟨k - 1, by omega⟩
    simp only [calamuslaw11_OutlineCloses.l1]
    rw [if_neg (by omega)]
  | succ d ih =>
    intro i hi
    obtain ⟨K, hK⟩ := ih (i + 1) (by omega)
    have hlt : i < l.length := by omega
    refine ⟨K + ps.length + 3, fun k hk => ?_⟩
    obtain ⟨k, rfl⟩ : ∃ m, k = m + 2 := ⟨k - 2, by omega⟩
    simp only [calamuslaw11_OutlineCloses.l1]
    rw [if_pos (by omega), if_pos (by omega), if_pos (by omega), rd39 l i hlt]
    cases hc : (at_ l i).f2
    · rw [if_neg (by simp)]
      simp only [calamuslaw11_OutlineCloses.j2]
      exact l2_ok l ps hL hP i _ _ _ K hlt hK ps.length 0 true (by omega) (.inl rfl) k (by omega)
    · rw [if_pos rfl]
      simp only [calamuslaw11_OutlineCloses.j2]
      refine l2_ok l ps hL hP i _ _ _ K hlt hK ps.length 0 _ (by omega) ?_ k (by omega)
      rcases hon i hc with h | h
      · refine .inl ?_
        subst h
        rfl
      · exact .inr h
theorem l0_ok (l : List S39) (ps : List S37) (hL : l.length < 1000000) (hP : ps.length < 1000000) (x : S33) (hc : Ch x ps x) (hon : ∀ j, (at_ l j).f2 = true → ps = [] ∨ ∃ s ∈ ps, s.f0 = pl (at_ l j)) :
    ∀ (d i : Nat), i + d = ps.length → ∃ K, ∀ k, K ≤ k → calamuslaw11_OutlineCloses.l0 k l ps ps ps.length i = some true := by
  intro d
  induction d with
  | zero =>
    intro i hi
    obtain ⟨K, hK⟩ := l1_ok l ps hL hP hon l.length 0 (by omega)
    refine ⟨K + 1, fun k hk => ?_⟩
    obtain ⟨k, rfl⟩ : ∃ m, k = m + 1 := ⟨k - 1, by omega⟩
    simp only [calamuslaw11_OutlineCloses.l0]
    rw [if_neg (by omega)]
    exact hK k (by omega)
  | succ d ih =>
    intro i hi
    obtain ⟨K, hK⟩ := ih (i + 1) (by omega)
    have hlt : i < ps.length := by omega
    refine ⟨K + 1, fun k hk => ?_⟩
    obtain ⟨k, rfl⟩ : ∃ m, k = m + 1 := ⟨k - 1, by omega⟩
    have hk' := hK k (by omega)
    have hm : Int.tmod (wrap64 ((i : Int) + 1)) (ps.length : Int) = (((i + 1) % ps.length : Nat) : Int) := by rw [wn i (by omega)]; rfl
    have hml := Nat.mod_lt (i + 1) (show 0 < ps.length by omega)
    have hcy := hc.cyc i hlt
    have hg := hc.mem ps[i] (List.getElem_mem hlt)
    simp only [calamuslaw11_OutlineCloses.l0]
    rw [if_pos (by omega), if_pos (by omega), if_pos (by omega), if_neg (by omega), hm, if_pos (by omega), if_pos (by omega), rd37 ps i hlt, rd37 ps _ hml, ← hcy, if_neg (by simp), wn i (by omega), pt_eq, pt_eq]
    obtain ⟨g1, g2⟩ := hg
    by_cases e1 : (ps[i]).f0 = (ps[i]).f2
    · rw [if_pos (by simpa using e1)]
      cases h3 : (ps[i]).f3
      · exact absurd ⟨e1, .inl h3⟩ g1
      · rw [if_pos rfl]
        have : ¬ (ps[i]).f1 = (ps[i]).f0 := fun h => g1 ⟨e1, .inr h⟩
        rw [if_neg (by simpa using this)]
        exact hk'
    · rw [if_neg (by simpa using e1)]
      cases h3 : (ps[i]).f3
      · rw [if_neg (by simp), g2 h3, if_neg (by simp)]
        exact hk'
      · rw [if_pos rfl]
        exact hk'
theorem pure : calamuslaw11_OutlineCloses.Pure := by
  intro l hl
  obtain ⟨_, _, hG⟩ := hl
  have hG' : ∀ k ∈ l, GK k := fun k hk => ⟨i64_bd (hG k hk).1, i64_bd (hG k hk).2.1⟩
  by_cases hlen : l.length > 300
  · refine ⟨12, ?_⟩
    unfold calamuslaw11_OutlineCloses.f
    rw [alive_yes 0, bs, if_pos rfl, if_pos (by omega)]
  · by_cases h0 : l = []
    · subst h0
      refine ⟨12, ?_⟩
      unfold calamuslaw11_OutlineCloses.f
      rw [alive_yes 0, bs]
      decide +kernel
    · have hn : 0 < l.length := List.length_pos_iff.2 h0
      obtain ⟨f, hf, _, hs⟩ := segs_ok l hn (by omega) hG'
      have hp := pcs_len l (f + 2 * l.length - 1) l.length
      obtain ⟨K, hK⟩ := l0_ok l (pcs l (f + 2 * l.length - 1) l.length) (by omega) (by omega) _ (pcs_closed l _) (fun j hj => on_end l hn _ j hj) (pcs l (f + 2 * l.length - 1) l.length).length 0 (by omega)
      refine ⟨K + l.length + 12, ?_⟩
      unfold calamuslaw11_OutlineCloses.f
      rw [alive_yes (K + l.length), bs, if_pos rfl, if_neg (by omega), show K + l.length + 12 = K + 11 + l.length + 1 by omega, hs (K + 11), bs]
      exact hK _ (by omega)
end Go.Proofs.Ytoghjnmcimniaaa.O.outlineCloses
