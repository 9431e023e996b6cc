/- The law GaussMoves over values alone: Turn stays where its points are moved or turned alike, and turns its sign where two of them change places. -/
import Derived.Test.YtgibokbkobcnaaaSGaussMoves
import Derived.Test.YtgibokbkobcnaaaYGaussBase
namespace Go.Proofs.Ytgibokbkobcnaaa.G.gaussMoves
open Go.RowKit Go.Proofs.YtgibokbkobcnaaaW.PrintWords Go.Proofs.YtgibokbkobcnaaaW.PrintLast Go.Proofs.YtgibokbkobcnaaaW.PrintMore Go.Proofs.Ytgibokbkobcnaaa.G Go.Proofs.Ytgibokbkobcnaaa.G.Base
set_option linter.unusedVariables false
set_option linter.unusedSimpArgs false
theorem i32_bd {x : Int} (h : (Lit.int .i32 x).wf = true) : -2147483648 ≤ x ∧ x ≤ 2147483647 := by
  simp [Lit.wf, IntKind.min, IntKind.max, IntKind.bits, IntKind.signed] at h
  omega
def sg (z : Int) : Int := if z > 0 then 1 else if z < 0 then -1 else 0
theorem gd_yes {x y : Int} (hx : Bd x) (hy : Bd y) : gauss_Cross.gd x y = true := gauss_Cross.gd_iff.2 ⟨hx.1, hx.2, hy.1, hy.2⟩
theorem turn_ok {a b c d e f : Int} (ha : Bd a) (hb : Bd b) (hc : Bd c) (hd : Bd d) (he : Bd e) (hf : Bd f) {z : Int} (hz : (c - a) * (f - b) - (d - b) * (e - a) = z) : gauss_Turn.f a b c d e f = some (sg z, 0) := by
  unfold gauss_Turn.f sg
  rw [gd_yes ha hb, gd_yes hc hd, gd_yes he hf, if_pos (by decide), hz]
  by_cases h1 : z > 0
  · rw [if_pos h1, if_pos h1]
  · rw [if_neg h1, if_neg h1]
    by_cases h2 : z < 0
    · rw [if_pos h2, if_pos h2]
    · rw [if_neg h2, if_neg h2]
theorem quarter_ok {x y n : Int} (hx : Bd x) (hy : Bd y) : gauss_Quarter.f x y n = some ((gauss_Quarter.q x y (n % 4).toNat).1, (gauss_Quarter.q x y (n % 4).toNat).2, 0) := by
  unfold gauss_Quarter.f
  rw [gd_yes hx hy, if_pos rfl]
theorem q_four (x y n : Int) : ∃ c s : Int, (c = 1 ∧ s = 0 ∨ c = 0 ∧ s = 1 ∨ c = -1 ∧ s = 0 ∨ c = 0 ∧ s = -1) ∧ ∀ x y : Int, gauss_Quarter.q x y (n % 4).toNat = (c * x - s * y, s * x + c * y) := by
  have h : (n % 4).toNat = 0 ∨ (n % 4).toNat = 1 ∨ (n % 4).toNat = 2 ∨ (n % 4).toNat = 3 := by omega
  rcases h with h | h | h | h <;> rw [h]
  · exact ⟨1, 0, by simp, fun x y => by simp [gauss_Quarter.q]⟩
  · exact ⟨0, 1, by simp, fun x y => by simp [gauss_Quarter.q]⟩
  · exact ⟨-1, 0, by simp, fun x y => by simp [gauss_Quarter.q]⟩
  · exact ⟨0, -1, by simp, fun x y => by simp [gauss_Quarter.q]⟩
theorem rot_bd {c s x y : Int} (h : c = 1 ∧ s = 0 ∨ c = 0 ∧ s = 1 ∨ c = -1 ∧ s = 0 ∨ c = 0 ∧ s = -1) (hx : Bd x) (hy : Bd y) : Bd (c * x - s * y) ∧ Bd (s * x + c * y) := by
  unfold Bd at *
  rcases h with ⟨rfl, rfl⟩ | ⟨rfl, rfl⟩ | ⟨rfl, rfl⟩ | ⟨rfl, rfl⟩ <;> omega
theorem sg_neg (z : Int) : sg z = wrap64 (- sg (- z)) := by
  unfold sg wrap64
  omega
theorem small_ok {x y : Int} (hx : -2147483648 ≤ x ∧ x ≤ 2147483647) (hy : -2147483648 ≤ y ∧ y ≤ 2147483647) : calamuslaw10_small.f x y = some (x / 2048, y / 2048) := by
  unfold calamuslaw10_small.f
  rw [w_id (by omega) (by omega), w_id (by omega) (by omega)]
theorem more_ok {a b c d : Int} (ha : Bd a) (hb : Bd b) (hc : Bd c) (hd : Bd d) : calamusref10_More.f a b c d = some (a + c, b + d) := by
  unfold Bd at *
  unfold calamusref10_More.f
  rw [w_id (by omega) (by omega), w_id (by omega) (by omega)]
theorem pure : calamuslaw10_GaussMoves.Pure := by
  intro x y n hx hy hn
  obtain ⟨⟨a, b⟩, ⟨c, d⟩, ⟨e, f⟩⟩ := x
  obtain ⟨g, h⟩ := y
  have ha := i32_bd hx.1.1
  have hb := i32_bd hx.1.2
  have hc := i32_bd hx.2.1.1
  have hd := i32_bd hx.2.1.2
  have he := i32_bd hx.2.2.1
  have hf := i32_bd hx.2.2.2
  have hg := i32_bd hy.1
  have hh := i32_bd hy.2
  simp only at ha hb hc hd he hf hg hh
  refine ⟨0 + 12, ?_⟩
  show calamuslaw10_GaussMoves.f (0 + 12) a b c d e f g h n = some true
  unfold calamuslaw10_GaussMoves.f
  rw [alive_yes 0, bs, if_pos rfl, small_ok hg hh, bs, small_ok ha hb, bs]
  have m : ∀ {x : Int}, (-2147483648 ≤ x ∧ x ≤ 2147483647) → -1048576 ≤ x / 2048 ∧ x / 2048 ≤ 1048576 := fun h => by omega
  have ka := m ha
  have kb := m hb
  have kc := m hc
  have kd := m hd
  have ke := m he
  have kf := m hf
  have kg := m hg
  have kh := m hh
  rw [small_ok hc hd, small_ok he hf]
  clear m ha hb hc hd he hf hg hh hx hy hn
  generalize a / 2048 = a at *
  generalize b / 2048 = b at *
  generalize c / 2048 = c at *
  generalize d / 2048 = d at *
  generalize e / 2048 = e at *
  generalize f / 2048 = f at *
  generalize g / 2048 = g at *
  generalize h / 2048 = h at *
  have w : ∀ {x : Int}, (-1048576 ≤ x ∧ x ≤ 1048576) → Bd x := fun h => by unfold Bd; omega
  have w2 : ∀ {x y : Int}, (-1048576 ≤ x ∧ x ≤ 1048576) → (-1048576 ≤ y ∧ y ≤ 1048576) → Bd (x + y) := fun h k => by unfold Bd; omega
  obtain ⟨co, si, hcs, hq⟩ := q_four 0 0 n
  obtain ⟨r1, r2⟩ := rot_bd hcs (w ka) (w kb)
  obtain ⟨r3, r4⟩ := rot_bd hcs (w kc) (w kd)
  obtain ⟨r5, r6⟩ := rot_bd hcs (w ke) (w kf)
  have hone : co * co + si * si = 1 := by rcases hcs with ⟨rfl, rfl⟩ | ⟨rfl, rfl⟩ | ⟨rfl, rfl⟩ | ⟨rfl, rfl⟩ <;> decide
  obtain ⟨z, hz⟩ : ∃ z, (c - a) * (f - b) - (d - b) * (e - a) = z := ⟨_, rfl⟩
  have z1 : (c + g - (a + g)) * (f + h - (b + h)) - (d + h - (b + h)) * (e + g - (a + g)) = z := by rw [← hz]; grind
  have z2 : (co * c - si * d - (co * a - si * b)) * (si * e + co * f - (si * a + co * b)) - (si * c + co * d - (si * a + co * b)) * (co * e - si * f - (co * a - si * b)) = z := by
    have : (co * c - si * d - (co * a - si * b)) * (si * e + co * f - (si * a + co * b)) - (si * c + co * d - (si * a + co * b)) * (co * e - si * f - (co * a - si * b)) = (co * co + si * si) * ((c - a) * (f - b) - (d - b) * (e - a)) := by grind
    rw [this, hone, hz, Int.one_mul]
  have z3 : (a - c) * (f - d) - (b - d) * (e - c) = - z := by rw [← hz]; grind
  have z4 : (e - c) * (b - d) - (f - d) * (a - c) = z := by rw [← hz]; grind
  rw [more_ok (w ka) (w kb) (w kg) (w kh), bs, quarter_ok (w ka) (w kb), bs, bs, more_ok (w kc) (w kd) (w kg) (w kh), bs, quarter_ok (w kc) (w kd), bs, bs, more_ok (w ke) (w kf) (w kg) (w kh), bs, quarter_ok (w ke) (w kf), bs]
  simp only [hq]
  rw [turn_ok (w ka) (w kb) (w kc) (w kd) (w ke) (w kf) hz, bs, turn_ok (w2 ka kg) (w2 kb kh) (w2 kc kg) (w2 kd kh) (w2 ke kg) (w2 kf kh) z1, bs, turn_ok r1 r2 r3 r4 r5 r6 z2, bs, turn_ok (w kc) (w kd) (w ka) (w kb) (w ke) (w kf) z3, bs, turn_ok (w kc) (w kd) (w ke) (w kf) (w ka) (w kb) z4, bs]
  simp [← sg_neg]
end Go.Proofs.Ytgibokbkobcnaaa.G.gaussMoves
