/- The pieces of a contour are a chain that closes: each begins where the one ahead of it ends; none is a point alone; each knot on the curve is an end. -/
import Derived.Test.YtoghjnmcimniaaaYOutlineAlive
namespace Go.Proofs.Ytoghjnmcimniaaa.O.Base
open Go.RowKit Go.Proofs.YtoghjnmcimniaaaW.PrintWords Go.Proofs.YtoghjnmcimniaaaW.PrintLast Go.Proofs.YtoghjnmcimniaaaW.PrintMore Go.Proofs.Ytoghjnmcimniaaa.O
set_option linter.unusedVariables false
set_option linter.unusedSimpArgs false

/-- A piece that is no point alone. -/
def gd (s : S37) : Prop := ¬ (s.f0 = s.f2 ∧ (s.f3 = false ∨ s.f1 = s.f0)) ∧ (s.f3 = false → s.f1 = ⟨0, 0⟩)
def Ch : S33 → List S37 → S33 → Prop
  | x, [], y => x = y
  | x, s :: r, y => s.f0 = x ∧ gd s ∧ Ch s.f2 r y
theorem Ch.append : ∀ {x y z : S33} {r t : List S37}, Ch x r y → Ch y t z → Ch x (r ++ t) z
  | _, _, _, [], _, h, k => by subst h; exact k
  | _, _, _, _ :: _, _, h, k => ⟨h.1, h.2.1, Ch.append h.2.2 k⟩
theorem mk_some {cv : Bool} {A C B : S33} {s : S37} (h : mk cv A C B = some s) : s.f0 = A ∧ s.f2 = B ∧ gd s ∧ s.f3 = cv ∧ s.f1 = (if cv = true then C else ⟨0, 0⟩) := by
  unfold mk at h
  split at h
  · rename_i hc
    obtain rfl := Option.some.inj h
    refine ⟨rfl, rfl, ⟨?_, ?_⟩, rfl, rfl⟩
    · rintro ⟨e1, e2⟩
      rcases hc with h1 | ⟨h1, h2⟩
      · exact h1 e1
      · rcases e2 with e2 | e2
        · exact absurd (h1.symm.trans e2) (by simp)
        · simp only [h1, if_true] at e2
          exact h2 e2
    · intro e
      have e : cv = false := e
      simp [e]
  · cases h
theorem mk_none {cv : Bool} {A C B : S33} (h : mk cv A C B = none) : A = B := by
  unfold mk at h
  split at h
  · cases h
  · rename_i hc
    by_cases e : A = B
    · exact e
    · exact absurd (.inl e) hc
theorem pc_step (a b c : S39) : Ch (fr a b) (pc a b c).toList (fr b c) := by
  unfold pc
  cases hb : b.f2
  · have e1 : fr a b = ea a b := by unfold fr; rw [hb]; rfl
    have e2 : fr b c = eb b c := by
      unfold fr eb ea
      rw [hb]
      rfl
    rw [if_neg (by simp), e1, e2]
    cases hm : mk true (ea a b) (pl b) (eb b c)
    · exact mk_none hm
    · obtain ⟨h1, h2, h3, _⟩ := mk_some hm
      exact ⟨h1, h3, h2⟩
  · have e1 : fr a b = pl b := by unfold fr; rw [hb]; rfl
    rw [if_pos rfl, e1]
    cases hc : c.f2
    · have e2 : fr b c = pl b := by unfold fr ea; rw [hc, hb]; rfl
      rw [if_neg (by simp), e2]
      rfl
    · have e2 : fr b c = pl c := by unfold fr; rw [hc]; rfl
      rw [if_pos rfl, e2]
      cases hm : mk false (pl b) ⟨0, 0⟩ (pl c)
      · exact mk_none hm
      · obtain ⟨h1, h2, h3, _⟩ := mk_some hm
        exact ⟨h1, h3, h2⟩
theorem pcs_chain (l : List S39) : ∀ (m i : Nat), Ch (fr (at_ l i) (at_ l (i + 1))) (pcs l i m) (fr (at_ l (i + m)) (at_ l (i + m + 1)))
  | 0, i => rfl
  | m + 1, i => by
    have h := (pc_step (at_ l i) (at_ l (i + 1)) (at_ l (i + 2))).append (pcs_chain l m (i + 1))
    rw [show i + 1 + m = i + (m + 1) by omega] at h
    exact h
theorem pcs_append (l : List S39) : ∀ (a i b : Nat), pcs l i (a + b) = pcs l i a ++ pcs l (i + a) b
  | 0, i, b => by simp [pcs]
  | a + 1, i, b => by
    rw [show a + 1 + b = (a + b) + 1 by omega, pcs, pcs_append l a (i + 1) b, pcs, List.append_assoc, show i + 1 + a = i + (a + 1) by omega]
theorem at_add (l : List S39) (i : Nat) : at_ l (i + l.length) = at_ l i := by
  have := at_per l i 1
  rwa [Nat.mul_one] at this
theorem pcs_closed (l : List S39) (i : Nat) : Ch (fr (at_ l i) (at_ l (i + 1))) (pcs l i l.length) (fr (at_ l i) (at_ l (i + 1))) := by
  have h := pcs_chain l l.length i
  rw [at_add, show i + l.length + 1 = i + 1 + l.length by omega, at_add] at h
  exact h
theorem Ch.mem : ∀ {x y : S33} {r : List S37}, Ch x r y → ∀ s ∈ r, gd s
  | _, _, [], _, s, hs => by cases hs
  | _, _, a :: r, h, s, hs => by
    rcases List.mem_cons.1 hs with rfl | hs
    · exact h.2.1
    · exact h.2.2.mem s hs
theorem Ch.next : ∀ {x y : S33} {r : List S37}, Ch x r y → ∀ (i : Nat) (h : i < r.length), (r[i]).f2 = if h' : i + 1 < r.length then (r[i + 1]).f0 else y
  | _, _, [], _, i, h => by simp at h
  | _, _, [a], h, 0, _ => by
    have := h.2.2
    simpa [Ch] using this
  | _, _, a :: b :: r, h, 0, _ => by
    have := h.2.2.1
    simpa using this.symm
  | _, _, a :: r, h, i + 1, hi => by
    have := h.2.2.next i (by simpa using hi)
    simp only [List.getElem_cons_succ, List.length_cons]
    rw [this]
    by_cases hc : i + 1 < r.length
    · rw [dif_pos hc, dif_pos (by omega)]
    · rw [dif_neg hc, dif_neg (by omega)]
theorem Ch.cyc {x : S33} {r : List S37} (h : Ch x r x) (i : Nat) (hi : i < r.length) : (r[i]).f2 = (r[(i + 1) % r.length]'(Nat.mod_lt _ (by omega))).f0 := by
  rw [h.next i hi]
  by_cases hc : i + 1 < r.length
  · rw [dif_pos hc]
    simp only [Nat.mod_eq_of_lt hc]
  · rw [dif_neg hc]
    have e : (i + 1) % r.length = 0 := by
      have : i + 1 = r.length := by omega
      rw [this, Nat.mod_self]
    simp only [e]
    cases r with
    | nil => simp at hi
    | cons a r => exact h.1.symm
/-- Each knot on the curve is where a piece begins. -/
theorem on_end (l : List S39) (hn : 0 < l.length) (i j : Nat) (hon : (at_ l j).f2 = true) : pcs l i l.length = [] ∨ ∃ s ∈ pcs l i l.length, s.f0 = pl (at_ l j) := by
  obtain ⟨m, hm, he⟩ : ∃ m, m < l.length ∧ at_ l (i + m + 1) = at_ l j := by
    refine ⟨(j + l.length * (i + 1) - (i + 1)) % l.length, Nat.mod_lt _ hn, ?_⟩
    have hge : i + 1 ≤ l.length * (i + 1) := Nat.le_mul_of_pos_left _ hn
    have key : (i + (j + l.length * (i + 1) - (i + 1)) % l.length + 1) % l.length = j % l.length := by
      rw [show i + (j + l.length * (i + 1) - (i + 1)) % l.length + 1 = (j + l.length * (i + 1) - (i + 1)) % l.length + (i + 1) by omega, Nat.mod_add_mod, show j + l.length * (i + 1) - (i + 1) + (i + 1) = j + l.length * (i + 1) by omega, Nat.add_mul_mod_self_left]
    unfold at_
    rw [key]
  have hF : fr (at_ l (i + m)) (at_ l (i + m + 1)) = pl (at_ l j) := by
    unfold fr
    rw [he, if_pos hon]
  have hsplit : pcs l i l.length = pcs l i m ++ pcs l (i + m) (l.length - m) := by
    rw [← pcs_append, show m + (l.length - m) = l.length by omega]
  have h2 := pcs_chain l (l.length - m) (i + m)
  rw [show i + m + (l.length - m) = i + l.length by omega, hF, at_add, show i + l.length + 1 = i + 1 + l.length by omega, at_add] at h2
  cases hr : pcs l (i + m) (l.length - m) with
  | cons s r =>
    rw [hr] at h2
    refine .inr ⟨s, ?_, h2.1⟩
    rw [hsplit, hr]
    simp
  | nil =>
    rw [hr] at h2
    have h3 := pcs_closed l i
    cases hp : pcs l i l.length with
    | nil => exact .inl rfl
    | cons s r =>
      rw [hp] at h3
      refine .inr ⟨s, by simp, ?_⟩
      rw [h3.1]
      exact h2.symm
end Go.Proofs.Ytoghjnmcimniaaa.O.Base
