/- What Go functions answer, as Lean functions, and that they do: written by wip/xprint.py of this session (the kit's printer with turns, texts by hand among them). -/
import Derived.Test.YtgibokbkobcnaaaG0
import Derived.Test.YtgibokbkobcnaaaGe0
namespace Go.Proofs.Ytgibokbkobcnaaa.G
open Go.RowKit Go.Proofs.YtgibokbkobcnaaaW.PrintWords Go.Proofs.YtgibokbkobcnaaaW.PrintLast Go.Proofs.YtgibokbkobcnaaaW.PrintMore
attribute [local go_sem] max2_int min2_int max_two min_two max_three min_three max_four min_four   -- for this text's walks alone
set_option linter.unusedVariables false
set_option linter.unusedSimpArgs false

attribute [local go_sem high] eqA23
/-! ### gauss_Good: function 19 -/
def gauss_Good.l0 : Nat → List (S23) → Int → Int → Option (Bool)
  | 0, _, _, _ => none
  | k + 1, x5, x6, x7 => if x7 < x6 then (if 0 ≤ x7 then (if x7 < (x5.length : Int) then (if ((rd_T23 x5 x7).f0) < (-4194304) then (some false) else (if ((rd_T23 x5 x7).f0) > 4194304 then (some false) else (if ((rd_T23 x5 x7).f1) < (-4194304) then (some false) else (if ((rd_T23 x5 x7).f1) > 4194304 then (some false) else (gauss_Good.l0 k x5 x6 (wrap64 (x7 + 1))))))) else (none)) else (none)) else (some true)
def gauss_Good.f (k : Nat) (l0 : List (S23)) : Option (Bool) := gauss_Good.l0 k l0 (l0.length : Int) 0
theorem gauss_Good.mono_l : ∀ k, (∀ y0 y1 y2, LeO (gauss_Good.l0 k y0 y1 y2) (gauss_Good.l0 (k + 1) y0 y1 y2))
  | 0 => fun _ _ _ r h => by simp [gauss_Good.l0] at h
  | k + 1 => by
    have ih0 := gauss_Good.mono_l k
    · intro y0 y1 y2
      unfold gauss_Good.l0
      repeat' first
      | (with_reducible exact ih0 _ _ _)
      | (with_reducible exact LeO.refl _)
      | (with_reducible exact LeO.none _)
      | (with_reducible refine LeO.ite ?_ ?_)
      | (with_reducible refine LeO.bind ?_ (fun _ => ?_))
      | exact ih0 _ _ _
      | exact LeO.none _
      | refine LeO.ite ?_ ?_
      | refine LeO.bind ?_ (fun _ => ?_)
theorem gauss_Good.mono : ∀ a0 k, LeO (gauss_Good.f k a0) (gauss_Good.f (k + 1) a0) := by
  intro a0 k
  have ih0 := gauss_Good.mono_l k
  unfold gauss_Good.f
  repeat' first
      | (with_reducible exact ih0 _ _ _)
      | (with_reducible exact LeO.refl _)
      | (with_reducible exact LeO.none _)
      | (with_reducible refine LeO.ite ?_ ?_)
      | (with_reducible refine LeO.bind ?_ (fun _ => ?_))
      | exact ih0 _ _ _
      | exact LeO.none _
      | refine LeO.ite ?_ ?_
      | refine LeO.bind ?_ (fun _ => ?_)

-- NOT PRINTED: function 49 (gauss_conj)

-- NOT PRINTED: function 50 (gauss_of)

/-! ### gauss_Cross: function 16 (by hand) -/
-- EXT calamus/gauss.Cross rounds=0 making=1
theorem gauss_Cross.w_id {x : Int} (h1 : -9223372036854775808 ≤ x) (h2 : x < 9223372036854775808) : wrap64 x = x := by
  unfold wrap64
  omega
def gauss_Cross.gd (x y : Int) : Bool := decide (-4194304 ≤ x ∧ x ≤ 4194304 ∧ -4194304 ≤ y ∧ y ≤ 4194304)
theorem gauss_Cross.gd_iff {x y : Int} : gauss_Cross.gd x y = true ↔ (-4194304 ≤ x ∧ x ≤ 4194304 ∧ -4194304 ≤ y ∧ y ≤ 4194304) := by simp [gauss_Cross.gd]
theorem gauss_Cross.good_step (k : Nat) (l : List S23) (n i : Nat) (hi : i < n) (hn : n = l.length) (hs : n < 1000000) :
    gauss_Good.l0 (k + 1) l n i = if gauss_Cross.gd (l.getD i z23).f0 (l.getD i z23).f1 = true then gauss_Good.l0 k l n ((i + 1 : Nat) : Int) else some false := by
  simp only [gauss_Good.l0]
  rw [if_pos (by omega), if_pos (by omega), if_pos (by omega), gauss_Cross.w_id (by omega) (by omega)]
  have e : rd_T23 l (i : Int) = l.getD i z23 := by simp [rd_T23]
  rw [e]
  generalize l.getD i z23 = p
  by_cases h : gauss_Cross.gd p.f0 p.f1 = true
  · rw [if_pos h]
    obtain ⟨h1, h2, h3, h4⟩ := gauss_Cross.gd_iff.1 h
    rw [if_neg (by omega), if_neg (by omega), if_neg (by omega), if_neg (by omega)]
    norm_cast
  · rw [if_neg h]
    have h' : ¬ (-4194304 ≤ p.f0 ∧ p.f0 ≤ 4194304 ∧ -4194304 ≤ p.f1 ∧ p.f1 ≤ 4194304) := fun x => h (gauss_Cross.gd_iff.2 x)
    repeat' split
    all_goals first | rfl | (exfalso; omega)
theorem gauss_Cross.good_end (k : Nat) (l : List S23) (n : Nat) : gauss_Good.l0 (k + 1) l n n = some true := by
  simp only [gauss_Good.l0]
  rw [if_neg (by omega)]
theorem gauss_Cross.good1 (k : Nat) (a b : Int) : gauss_Good.f (k + 2) [⟨a, b⟩] = some (gauss_Cross.gd a b) := by
  unfold gauss_Good.f
  show gauss_Good.l0 (k + 1 + 1) _ ((1 : Nat) : Int) ((0 : Nat) : Int) = _
  rw [gauss_Cross.good_step _ _ 1 0 (by omega) rfl (by omega), gauss_Cross.good_end]
  simp only [List.getD_cons_zero]
  cases gauss_Cross.gd a b <;> rfl
theorem gauss_Cross.good2 (k : Nat) (a b c d : Int) : gauss_Good.f (k + 3) [⟨a, b⟩, ⟨c, d⟩] = some (gauss_Cross.gd a b && gauss_Cross.gd c d) := by
  unfold gauss_Good.f
  show gauss_Good.l0 (k + 2 + 1) _ ((2 : Nat) : Int) ((0 : Nat) : Int) = _
  rw [gauss_Cross.good_step _ _ 2 0 (by omega) rfl (by omega), gauss_Cross.good_step _ _ 2 1 (by omega) rfl (by omega), gauss_Cross.good_end]
  simp only [List.getD_cons_zero, List.getD_cons_succ]
  cases gauss_Cross.gd a b <;> cases gauss_Cross.gd c d <;> rfl
theorem gauss_Cross.good3 (k : Nat) (a b c d e f : Int) : gauss_Good.f (k + 4) [⟨a, b⟩, ⟨c, d⟩, ⟨e, f⟩] = some (gauss_Cross.gd a b && gauss_Cross.gd c d && gauss_Cross.gd e f) := by
  unfold gauss_Good.f
  show gauss_Good.l0 (k + 3 + 1) _ ((3 : Nat) : Int) ((0 : Nat) : Int) = _
  rw [gauss_Cross.good_step _ _ 3 0 (by omega) rfl (by omega), gauss_Cross.good_step _ _ 3 1 (by omega) rfl (by omega), gauss_Cross.good_step _ _ 3 2 (by omega) rfl (by omega), gauss_Cross.good_end]
  simp only [List.getD_cons_zero, List.getD_cons_succ]
  cases gauss_Cross.gd a b <;> cases gauss_Cross.gd c d <;> cases gauss_Cross.gd e f <;> rfl
theorem gauss_Cross.abs_mul {x y : Int} (hx : -4194304 ≤ x ∧ x ≤ 4194304) (hy : -4194304 ≤ y ∧ y ≤ 4194304) : (x * y).natAbs < 2 ^ 52 := by
  rw [Int.natAbs_mul]
  have h1 : x.natAbs ≤ 4194304 := by omega
  have h2 : y.natAbs ≤ 4194304 := by omega
  have := Nat.mul_le_mul h1 h2
  omega
theorem gauss_Cross.isof {x : Int} (hx : -4194304 ≤ x ∧ x ≤ 4194304) : Fl.Is (Fl.of x) x := Fl.is_of x (by omega)
theorem gauss_Cross.prod_ok {a b c d : Int} (h1 : -4194304 ≤ a ∧ a ≤ 4194304 ∧ -4194304 ≤ b ∧ b ≤ 4194304) (h2 : -4194304 ≤ c ∧ c ≤ 4194304 ∧ -4194304 ≤ d ∧ d ≤ 4194304) :
    ∃ re im, cMulBits (Fl.of a) (Op.negFloat .f64 (Fl.of b)) (Fl.of c) (Fl.of d) = some (re, im) ∧ Fl.Is re (a * c + b * d) ∧ Fl.Is im (a * d - b * c) := by
  have ha := gauss_Cross.isof ⟨h1.1, h1.2.1⟩
  have hb := Fl.neg (gauss_Cross.isof ⟨h1.2.2.1, h1.2.2.2⟩)
  have hc := gauss_Cross.isof ⟨h2.1, h2.2.1⟩
  have hd := gauss_Cross.isof ⟨h2.2.2.1, h2.2.2.2⟩
  obtain ⟨re, im, e, i1, i2⟩ := Fl.cmul ha hb hc hd (gauss_Cross.abs_mul ⟨h1.1, h1.2.1⟩ ⟨h2.1, h2.2.1⟩) (gauss_Cross.abs_mul (by omega) ⟨h2.2.2.1, h2.2.2.2⟩) (gauss_Cross.abs_mul ⟨h1.1, h1.2.1⟩ ⟨h2.2.2.1, h2.2.2.2⟩) (gauss_Cross.abs_mul (by omega) ⟨h2.1, h2.2.1⟩)
  refine ⟨re, im, e, ?_, ?_⟩
  · rw [Int.neg_mul] at i1
    rw [show a * c + b * d = a * c - -(b * d) by omega]
    exact i1
  · rw [Int.neg_mul] at i2
    rw [show a * d - b * c = a * d + -(b * c) by omega]
    exact i2
def gauss_Cross.f (a0_0 a0_1 a1_0 a1_1 : Int) : Option (Int × Int) := if (gauss_Cross.gd a0_0 a0_1 && gauss_Cross.gd a1_0 a1_1) = true then some (a0_0 * a1_1 - a0_1 * a1_0, 0) else some (0, 6)

/-! ### gauss_Dot: function 17 (by hand) -/
-- EXT calamus/gauss.Dot rounds=0 making=1
def gauss_Dot.f (a0_0 a0_1 a1_0 a1_1 : Int) : Option (Int × Int) := if (gauss_Cross.gd a0_0 a0_1 && gauss_Cross.gd a1_0 a1_1) = true then some (a0_0 * a1_0 + a0_1 * a1_1, 0) else some (0, 6)

/-! ### gauss_Times: function 18 (by hand) -/
-- EXT calamus/gauss.Times rounds=0 making=1
def gauss_Times.f (a0_0 a0_1 a1_0 a1_1 : Int) : Option (Int × Int × Int) := if (gauss_Cross.gd a0_0 a0_1 && gauss_Cross.gd a1_0 a1_1) = true then some (a0_0 * a1_0 - a0_1 * a1_1, a0_0 * a1_1 + a0_1 * a1_0, 0) else some (0, 0, 6)

/-! ### gauss_Area: function 22 (by hand) -/
-- EXT calamus/gauss.Area rounds=1 making=1
def gauss_Area.st (l : List S23) (z : S23) : Nat → Int × S23
  | 0 => (0, z)
  | j + 1 => (wrap64 ((gauss_Area.st l z j).1 + ((gauss_Area.st l z j).2.f0 * (l.getD j z23).f1 - (gauss_Area.st l z j).2.f1 * (l.getD j z23).f0)), l.getD j z23)
def gauss_Area.f (k : Nat) (l0 : List S23) : Option (Int × Int) := if (l0.length : Int) > 4096 then some (0, 7) else (gauss_Good.f k l0).bind fun g => if g = true then (if (l0.length : Int) = 0 then some (0, 0) else some ((gauss_Area.st l0 (l0.getD (l0.length - 1) z23) l0.length).1, 0)) else some (0, 6)
theorem gauss_Area.mono : ∀ a0 k, LeO (gauss_Area.f k a0) (gauss_Area.f (k + 1) a0) := by
  intro a0 k
  unfold gauss_Area.f
  exact LeO.ite (LeO.refl _) (LeO.bind (gauss_Good.mono a0 k) (fun _ => LeO.refl _))

/-! ### gauss_Quarter: function 29 (by hand) -/
-- EXT calamus/gauss.Quarter rounds=0 making=1
def gauss_Quarter.q (x y : Int) : Nat → Int × Int
  | 0 => (x, y)
  | j + 1 => (-(gauss_Quarter.q x y j).2, (gauss_Quarter.q x y j).1)
def gauss_Quarter.f (a0_0 a0_1 a1 : Int) : Option (Int × Int × Int) := if (gauss_Cross.gd a0_0 a0_1) = true then some ((gauss_Quarter.q a0_0 a0_1 (a1 % 4).toNat).1, (gauss_Quarter.q a0_0 a0_1 (a1 % 4).toNat).2, 0) else some (0, 0, 6)

/-! ### calamuslaw10_alive: function 14 -/
def calamuslaw10_alive.f (k : Nat)  : Option (Bool) := (gauss_Cross.f 3 1 2 4).bind fun bt105 => ((gauss_Dot.f 3 1 2 4).bind fun bt107 => ((gauss_Times.f 3 1 2 4).bind fun bt109 => ((gauss_Quarter.f 3 1 1).bind fun bt113 => ((gauss_Area.f k (([(⟨0, 0⟩ : S23), (⟨4, 0⟩ : S23), (⟨0, 3⟩ : S23)] : List (S23)))).bind fun bt120 => ((gauss_Cross.f 4194305 0 3 1).bind fun bt122 => (if bt105.1 = 10 then (if bt107.1 = 10 then (if (bt109.1 == 2 && (bt109.2.1 == 14)) = true then (if (bt113.1 == (-1) && (bt113.2.1 == 3)) = true then (if bt120.1 = 12 then (if bt105.2 = 0 then (if bt107.2 = 0 then (if bt109.2.2 = 0 then (if bt113.2.2 = 0 then (if bt120.2 = 0 then (some (bt122.2 == 6)) else (none)) else (none)) else (none)) else (none)) else (none)) else (none)) else (none)) else (none)) else (none)) else (none)))))))
theorem calamuslaw10_alive.mono : ∀ k, LeO (calamuslaw10_alive.f k ) (calamuslaw10_alive.f (k + 1) ) := by
  intro  k
  unfold calamuslaw10_alive.f
  repeat' first
      | (with_reducible exact gauss_Area.mono _ _)
      | (with_reducible exact LeO.refl _)
      | (with_reducible exact LeO.none _)
      | (with_reducible refine LeO.ite ?_ ?_)
      | (with_reducible refine LeO.bind ?_ (fun _ => ?_))
      | exact gauss_Area.mono _ _
      | exact LeO.none _
      | refine LeO.ite ?_ ?_
      | refine LeO.bind ?_ (fun _ => ?_)

/-! ### calamusref10_Good: function 15 -/
def calamusref10_Good.f (a0_0 : Int) (a0_1 : Int) : Option (Bool) := if a0_0 ≥ (-4194304) then (if a0_0 ≤ 4194304 then (if a0_1 ≥ (-4194304) then (some (decide (a0_1 ≤ 4194304))) else (some false)) else (some false)) else (some false)

/-! ### calamusref10_Cross: function 20 -/
def calamusref10_Cross.f (a0_0 : Int) (a0_1 : Int) (a1_0 : Int) (a1_1 : Int) : Option (Int) := some (wrap64 ((wrap64 (a0_0 * a1_1)) - (wrap64 (a0_1 * a1_0))))

/-! ### calamusref10_Dot: function 21 -/
def calamusref10_Dot.f (a0_0 : Int) (a0_1 : Int) (a1_0 : Int) (a1_1 : Int) : Option (Int) := some (wrap64 ((wrap64 (a0_0 * a1_0)) + (wrap64 (a0_1 * a1_1))))

/-! ### calamuslaw10_GaussProducts: function 3 -/
mutual
def calamuslaw10_GaussProducts.j0 : Nat → Bool → Int → Int → Int → Int → Option (Bool)
  | 0, _, _, _, _, _ => none
  | k + 1, x5, x130000, x130001, x131000, x131001 => (gauss_Cross.f x130000 x130001 x131000 x131001).bind fun bt134 => ((gauss_Dot.f x130000 x130001 x131000 x131001).bind fun bt136 => ((gauss_Times.f x130000 x130001 x131000 x131001).bind fun bt138 => ((gauss_Good.f k (([(⟨x130000, x130001⟩ : S23), (⟨x131000, x131001⟩ : S23)] : List (S23)))).bind fun t145 => (if (t145 != x5) = true then (calamuslaw10_GaussProducts.j1 k x5 bt134.1 bt134.2 bt136.1 bt136.2 bt138.2.2 true x130000 x130001 x131000 x131001 bt138.1 bt138.2.1) else ((gauss_Good.f k (([(⟨x130000, x130001⟩ : S23)] : List (S23)))).bind fun t149 => ((calamusref10_Good.f x130000 x130001).bind fun t150 => (if (t149 != t150) = true then (calamuslaw10_GaussProducts.j1 k x5 bt134.1 bt134.2 bt136.1 bt136.2 bt138.2.2 true x130000 x130001 x131000 x131001 bt138.1 bt138.2.1) else ((gauss_Good.f k ([] : List (S23))).bind fun t151 => (calamuslaw10_GaussProducts.j1 k x5 bt134.1 bt134.2 bt136.1 bt136.2 bt138.2.2 (!t151) x130000 x130001 x131000 x131001 bt138.1 bt138.2.1)))))))))
def calamuslaw10_GaussProducts.j1 : Nat → Bool → Int → Int → Int → Int → Int → Bool → Int → Int → Int → Int → Int → Int → Option (Bool)
  | 0, _, _, _, _, _, _, _, _, _, _, _, _, _ => none
  | k + 1, x5, x6, x7, x8, x9, x11, x55, x130000, x130001, x131000, x131001, x142000, x142001 => if x55 = true then (none) else (if x5 = true then (if x7 = 0 then (if x9 = 0 then (if x11 = 0 then ((calamusref10_Cross.f x130000 x130001 x131000 x131001).bind fun t152 => (if x6 = t152 then ((calamusref10_Dot.f x130000 x130001 x131000 x131001).bind fun t153 => (if x8 = t153 then ((calamusref10_Dot.f x130000 (wrap64 (-x130001)) x131000 x131001).bind fun t154 => ((calamusref10_Cross.f x130000 (wrap64 (-x130001)) x131000 x131001).bind fun t155 => (some (x142000 == t154 && (x142001 == t155))))) else (none))) else (none))) else (none)) else (none)) else (none)) else (if x7 = 6 then (if x9 = 6 then (if x11 = 6 then (if x6 = 0 then (if x8 = 0 then (some (x142000 == 0 && (x142001 == 0))) else (none)) else (none)) else (none)) else (none)) else (none)))
end
def calamuslaw10_GaussProducts.f (k : Nat) (a0_0 : Int) (a0_1 : Int) (a1_0 : Int) (a1_1 : Int) : Option (Bool) := (calamuslaw10_alive.f k).bind fun t131 => (if t131 = true then ((calamusref10_Good.f a0_0 a0_1).bind fun t132 => (if t132 = true then ((calamusref10_Good.f a1_0 a1_1).bind fun t133 => (calamuslaw10_GaussProducts.j0 k t133 a0_0 a0_1 a1_0 a1_1)) else (calamuslaw10_GaussProducts.j0 k false a0_0 a0_1 a1_0 a1_1))) else (none))
theorem calamuslaw10_GaussProducts.mono_l : ∀ k, (∀ y0 y1 y2 y3 y4, LeO (calamuslaw10_GaussProducts.j0 k y0 y1 y2 y3 y4) (calamuslaw10_GaussProducts.j0 (k + 1) y0 y1 y2 y3 y4)) ∧ (∀ y0 y1 y2 y3 y4 y5 y6 y7 y8 y9 y10 y11 y12, LeO (calamuslaw10_GaussProducts.j1 k y0 y1 y2 y3 y4 y5 y6 y7 y8 y9 y10 y11 y12) (calamuslaw10_GaussProducts.j1 (k + 1) y0 y1 y2 y3 y4 y5 y6 y7 y8 y9 y10 y11 y12))
  | 0 => ⟨fun _ _ _ _ _ r h => by simp [calamuslaw10_GaussProducts.j0] at h, fun _ _ _ _ _ _ _ _ _ _ _ _ _ r h => by simp [calamuslaw10_GaussProducts.j1] at h⟩
  | k + 1 => by
    obtain ⟨ih0, ih1⟩ := calamuslaw10_GaussProducts.mono_l k
    refine ⟨?_, ?_⟩
    · intro y0 y1 y2 y3 y4
      unfold calamuslaw10_GaussProducts.j0
      repeat' first
      | (with_reducible exact ih0 _ _ _ _ _)
      | (with_reducible exact ih1 _ _ _ _ _ _ _ _ _ _ _ _ _)
      | (with_reducible exact calamuslaw10_alive.mono _)
      | (with_reducible exact gauss_Good.mono _ _)
      | (with_reducible exact LeO.refl _)
      | (with_reducible exact LeO.none _)
      | (with_reducible refine LeO.ite ?_ ?_)
      | (with_reducible refine LeO.bind ?_ (fun _ => ?_))
      | exact ih0 _ _ _ _ _
      | exact ih1 _ _ _ _ _ _ _ _ _ _ _ _ _
      | exact calamuslaw10_alive.mono _
      | exact gauss_Good.mono _ _
      | exact LeO.none _
      | refine LeO.ite ?_ ?_
      | refine LeO.bind ?_ (fun _ => ?_)
    · intro y0 y1 y2 y3 y4 y5 y6 y7 y8 y9 y10 y11 y12
      unfold calamuslaw10_GaussProducts.j1
      repeat' first
      | (with_reducible exact ih0 _ _ _ _ _)
      | (with_reducible exact ih1 _ _ _ _ _ _ _ _ _ _ _ _ _)
      | (with_reducible exact calamuslaw10_alive.mono _)
      | (with_reducible exact gauss_Good.mono _ _)
      | (with_reducible exact LeO.refl _)
      | (with_reducible exact LeO.none _)
      | (with_reducible refine LeO.ite ?_ ?_)
      | (with_reducible refine LeO.bind ?_ (fun _ => ?_))
      | exact ih0 _ _ _ _ _
      | exact ih1 _ _ _ _ _ _ _ _ _ _ _ _ _
      | exact calamuslaw10_alive.mono _
      | exact gauss_Good.mono _ _
      | exact LeO.none _
      | refine LeO.ite ?_ ?_
      | refine LeO.bind ?_ (fun _ => ?_)
theorem calamuslaw10_GaussProducts.mono : ∀ a0 a1 a2 a3 k, LeO (calamuslaw10_GaussProducts.f k a0 a1 a2 a3) (calamuslaw10_GaussProducts.f (k + 1) a0 a1 a2 a3) := by
  intro a0 a1 a2 a3 k
  obtain ⟨ih0, ih1⟩ := calamuslaw10_GaussProducts.mono_l k
  unfold calamuslaw10_GaussProducts.f
  repeat' first
      | (with_reducible exact ih0 _ _ _ _ _)
      | (with_reducible exact ih1 _ _ _ _ _ _ _ _ _ _ _ _ _)
      | (with_reducible exact calamuslaw10_alive.mono _)
      | (with_reducible exact gauss_Good.mono _ _)
      | (with_reducible exact LeO.refl _)
      | (with_reducible exact LeO.none _)
      | (with_reducible refine LeO.ite ?_ ?_)
      | (with_reducible refine LeO.bind ?_ (fun _ => ?_))
      | exact ih0 _ _ _ _ _
      | exact ih1 _ _ _ _ _ _ _ _ _ _ _ _ _
      | exact calamuslaw10_alive.mono _
      | exact gauss_Good.mono _ _
      | exact LeO.none _
      | refine LeO.ite ?_ ?_
      | refine LeO.bind ?_ (fun _ => ?_)

/-! ### calamusref10_All: function 24 -/
def calamusref10_All.l0 : Nat → List (S23) → Int → Int → Option (Bool)
  | 0, _, _, _ => none
  | k + 1, x5, x6, x7 => if x7 < x6 then (if 0 ≤ x7 then (if x7 < (x5.length : Int) then ((calamusref10_Good.f ((rd_T23 x5 x7).f0) ((rd_T23 x5 x7).f1)).bind fun t158 => (if t158 = true then (calamusref10_All.l0 k x5 x6 (wrap64 (x7 + 1))) else (some false))) else (none)) else (none)) else (some true)
def calamusref10_All.f (k : Nat) (l0 : List (S23)) : Option (Bool) := calamusref10_All.l0 k l0 (l0.length : Int) 0
theorem calamusref10_All.mono_l : ∀ k, (∀ y0 y1 y2, LeO (calamusref10_All.l0 k y0 y1 y2) (calamusref10_All.l0 (k + 1) y0 y1 y2))
  | 0 => fun _ _ _ r h => by simp [calamusref10_All.l0] at h
  | k + 1 => by
    have ih0 := calamusref10_All.mono_l k
    · intro y0 y1 y2
      unfold calamusref10_All.l0
      repeat' first
      | (with_reducible exact ih0 _ _ _)
      | (with_reducible exact LeO.refl _)
      | (with_reducible exact LeO.none _)
      | (with_reducible refine LeO.ite ?_ ?_)
      | (with_reducible refine LeO.bind ?_ (fun _ => ?_))
      | exact ih0 _ _ _
      | exact LeO.none _
      | refine LeO.ite ?_ ?_
      | refine LeO.bind ?_ (fun _ => ?_)
theorem calamusref10_All.mono : ∀ a0 k, LeO (calamusref10_All.f k a0) (calamusref10_All.f (k + 1) a0) := by
  intro a0 k
  have ih0 := calamusref10_All.mono_l k
  unfold calamusref10_All.f
  repeat' first
      | (with_reducible exact ih0 _ _ _)
      | (with_reducible exact LeO.refl _)
      | (with_reducible exact LeO.none _)
      | (with_reducible refine LeO.ite ?_ ?_)
      | (with_reducible refine LeO.bind ?_ (fun _ => ?_))
      | exact ih0 _ _ _
      | exact LeO.none _
      | refine LeO.ite ?_ ?_
      | refine LeO.bind ?_ (fun _ => ?_)

/-! ### gauss_Turn: function 28 (by hand) -/
-- EXT calamus/gauss.Turn rounds=0 making=1
def gauss_Turn.f (a0_0 a0_1 a1_0 a1_1 a2_0 a2_1 : Int) : Option (Int × Int) := if (gauss_Cross.gd a0_0 a0_1 && gauss_Cross.gd a1_0 a1_1 && gauss_Cross.gd a2_0 a2_1) = true then (if (a1_0 - a0_0) * (a2_1 - a0_1) - (a1_1 - a0_1) * (a2_0 - a0_0) > 0 then some (1, 0) else if (a1_0 - a0_0) * (a2_1 - a0_1) - (a1_1 - a0_1) * (a2_0 - a0_0) < 0 then some (-1, 0) else some (0, 0)) else some (0, 6)

/-! ### calamusref10_Quarter: function 30 -/
def calamusref10_Quarter.l0 : Nat → Int → Int → Int → Option (Int × Int)
  | 0, _, _, _ => none
  | k + 1, x5, x160000, x160001 => if x5 > 0 then (calamusref10_Quarter.l0 k (wrap64 (x5 - 1)) (wrap64 (-x160001)) x160000) else (some (x160000, x160001))
def calamusref10_Quarter.f (k : Nat) (a0_0 : Int) (a0_1 : Int) (a1 : Int) : Option (Int × Int) := calamusref10_Quarter.l0 k (Int.tmod (wrap64 ((Int.tmod a1 4) + 4)) 4) a0_0 a0_1
theorem calamusref10_Quarter.mono_l : ∀ k, (∀ y0 y1 y2, LeO (calamusref10_Quarter.l0 k y0 y1 y2) (calamusref10_Quarter.l0 (k + 1) y0 y1 y2))
  | 0 => fun _ _ _ r h => by simp [calamusref10_Quarter.l0] at h
  | k + 1 => by
    have ih0 := calamusref10_Quarter.mono_l k
    · intro y0 y1 y2
      unfold calamusref10_Quarter.l0
      repeat' first
      | (with_reducible exact ih0 _ _ _)
      | (with_reducible exact LeO.refl _)
      | (with_reducible exact LeO.none _)
      | (with_reducible refine LeO.ite ?_ ?_)
      | (with_reducible refine LeO.bind ?_ (fun _ => ?_))
      | exact ih0 _ _ _
      | exact LeO.none _
      | refine LeO.ite ?_ ?_
      | refine LeO.bind ?_ (fun _ => ?_)
theorem calamusref10_Quarter.mono : ∀ a0 a1 a2 k, LeO (calamusref10_Quarter.f k a0 a1 a2) (calamusref10_Quarter.f (k + 1) a0 a1 a2) := by
  intro a0 a1 a2 k
  have ih0 := calamusref10_Quarter.mono_l k
  unfold calamusref10_Quarter.f
  repeat' first
      | (with_reducible exact ih0 _ _ _)
      | (with_reducible exact LeO.refl _)
      | (with_reducible exact LeO.none _)
      | (with_reducible refine LeO.ite ?_ ?_)
      | (with_reducible refine LeO.bind ?_ (fun _ => ?_))
      | exact ih0 _ _ _
      | exact LeO.none _
      | refine LeO.ite ?_ ?_
      | refine LeO.bind ?_ (fun _ => ?_)

/-! ### calamusref10_Sign: function 51 -/
def calamusref10_Sign.f (a0 : Int) : Option (Int) := if a0 < 0 then (some (-1)) else (some (mn a0 1))

/-! ### calamusref10_Less: function 52 -/
def calamusref10_Less.f (a0_0 : Int) (a0_1 : Int) (a1_0 : Int) (a1_1 : Int) : Option (Int × Int) := some (wrap64 (a0_0 - a1_0), wrap64 (a0_1 - a1_1))

/-! ### calamusref10_Turn: function 31 -/
def calamusref10_Turn.f (a0_0 : Int) (a0_1 : Int) (a1_0 : Int) (a1_1 : Int) (a2_0 : Int) (a2_1 : Int) : Option (Int) := (calamusref10_Less.f a1_0 a1_1 a0_0 a0_1).bind fun bt167 => ((calamusref10_Less.f a2_0 a2_1 a0_0 a0_1).bind fun bt169 => ((calamusref10_Cross.f bt167.1 bt167.2 bt169.1 bt169.2).bind fun t171 => ((calamusref10_Sign.f t171).bind fun t172 => (some t172))))

/-! ### calamuslaw10_GaussTurns: function 7 -/
def calamuslaw10_GaussTurns.j0 : Nat → Int → Int → Int → Int → Int → Int → Int → Int → Option (Bool)
  | 0, _, _, _, _, _, _, _, _ => none
  | k + 1, x5, x6, x174000, x174001, x174002, x174003, x174004, x174005 => (calamusref10_All.f k ([⟨x174000, x174001⟩, ⟨x174002, x174003⟩, ⟨x174004, x174005⟩] : List (S23))).bind fun t184 => (if t184 = true then (if x6 = 0 then ((calamusref10_Turn.f x174000 x174001 x174002 x174003 x174004 x174005).bind fun t185 => (some (x5 == t185))) else (none)) else (if x6 = 6 then (some (x5 == 0)) else (none)))
def calamuslaw10_GaussTurns.f (k : Nat) (a0_0 : Int) (a0_1 : Int) (a0_2 : Int) (a0_3 : Int) (a0_4 : Int) (a0_5 : Int) (a1 : Int) : Option (Bool) := (calamuslaw10_alive.f k).bind fun t174 => (if t174 = true then ((gauss_Turn.f a0_0 a0_1 a0_2 a0_3 a0_4 a0_5).bind fun bt175 => ((gauss_Quarter.f a0_0 a0_1 a1).bind fun bt177 => ((calamusref10_Good.f a0_0 a0_1).bind fun t181 => (if t181 = true then (if bt177.2.2 = 0 then ((calamusref10_Quarter.f k a0_0 a0_1 a1).bind fun bt182 => (if (!(bt177.1 == bt182.1) || (!(bt177.2.1 == bt182.2))) = true then (none) else (calamuslaw10_GaussTurns.j0 k bt175.1 bt175.2 a0_0 a0_1 a0_2 a0_3 a0_4 a0_5))) else (none)) else (if bt177.2.2 = 6 then (if (!(bt177.1 == 0) || (!(bt177.2.1 == 0))) = true then (none) else (calamuslaw10_GaussTurns.j0 k bt175.1 bt175.2 a0_0 a0_1 a0_2 a0_3 a0_4 a0_5)) else (none)))))) else (none))
theorem calamuslaw10_GaussTurns.mono_l : ∀ k, (∀ y0 y1 y2 y3 y4 y5 y6 y7, LeO (calamuslaw10_GaussTurns.j0 k y0 y1 y2 y3 y4 y5 y6 y7) (calamuslaw10_GaussTurns.j0 (k + 1) y0 y1 y2 y3 y4 y5 y6 y7))
  | 0 => fun _ _ _ _ _ _ _ _ r h => by simp [calamuslaw10_GaussTurns.j0] at h
  | k + 1 => by
    have ih0 := calamuslaw10_GaussTurns.mono_l k
    · intro y0 y1 y2 y3 y4 y5 y6 y7
      unfold calamuslaw10_GaussTurns.j0
      repeat' first
      | (with_reducible exact ih0 _ _ _ _ _ _ _ _)
      | (with_reducible exact calamuslaw10_alive.mono _)
      | (with_reducible exact calamusref10_All.mono _ _)
      | (with_reducible exact calamusref10_Quarter.mono _ _ _ _)
      | (with_reducible exact LeO.refl _)
      | (with_reducible exact LeO.none _)
      | (with_reducible refine LeO.ite ?_ ?_)
      | (with_reducible refine LeO.bind ?_ (fun _ => ?_))
      | exact ih0 _ _ _ _ _ _ _ _
      | exact calamuslaw10_alive.mono _
      | exact calamusref10_All.mono _ _
      | exact calamusref10_Quarter.mono _ _ _ _
      | exact LeO.none _
      | refine LeO.ite ?_ ?_
      | refine LeO.bind ?_ (fun _ => ?_)
theorem calamuslaw10_GaussTurns.mono : ∀ a0 a1 a2 a3 a4 a5 a6 k, LeO (calamuslaw10_GaussTurns.f k a0 a1 a2 a3 a4 a5 a6) (calamuslaw10_GaussTurns.f (k + 1) a0 a1 a2 a3 a4 a5 a6) := by
  intro a0 a1 a2 a3 a4 a5 a6 k
  have ih0 := calamuslaw10_GaussTurns.mono_l k
  unfold calamuslaw10_GaussTurns.f
  repeat' first
      | (with_reducible exact ih0 _ _ _ _ _ _ _ _)
      | (with_reducible exact calamuslaw10_alive.mono _)
      | (with_reducible exact calamusref10_All.mono _ _)
      | (with_reducible exact calamusref10_Quarter.mono _ _ _ _)
      | (with_reducible exact LeO.refl _)
      | (with_reducible exact LeO.none _)
      | (with_reducible refine LeO.ite ?_ ?_)
      | (with_reducible refine LeO.bind ?_ (fun _ => ?_))
      | exact ih0 _ _ _ _ _ _ _ _
      | exact calamuslaw10_alive.mono _
      | exact calamusref10_All.mono _ _
      | exact calamusref10_Quarter.mono _ _ _ _
      | exact LeO.none _
      | refine LeO.ite ?_ ?_
      | refine LeO.bind ?_ (fun _ => ?_)

end Go.Proofs.Ytgibokbkobcnaaa.G
