/- What Go functions answer, as Lean functions, and that they do: written by wip/xprint.py of this session (the kit's printer with turns, texts by hand among them). -/
import Derived.Test.YtgibokbkobcnaaaG0
import Derived.Test.YtgibokbkobcnaaaGe0
namespace Go.Proofs.Ytgibokbkobcnaaa.G
open Go.RowKit Go.Proofs.YtgibokbkobcnaaaW.PrintWords Go.Proofs.YtgibokbkobcnaaaW.PrintLast Go.Proofs.YtgibokbkobcnaaaW.PrintMore
attribute [local go_sem] max2_int min2_int max_two min_two max_three min_three max_four min_four   -- for this text's walks alone
set_option linter.unusedVariables false
set_option linter.unusedSimpArgs false

attribute [local go_sem high] eqA23
/-! ### gauss_Good: function 19 -/
def gauss_Good.l0 : Nat → List (S23) → Int → Int → Option (Bool)
  | 0, _, _, _ => none
  | k + 1, x5, x6, x7 => if x7 < x6 then (if 0 ≤ x7 then (if x7 < (x5.length : Int) then (if ((rd_T23 x5 x7).f0) < (-4194304) then (some false) else (if ((rd_T23 x5 x7).f0) > 4194304 then (some false) else (if ((rd_T23 x5 x7).f1) < (-4194304) then (some false) else (if ((rd_T23 x5 x7).f1) > 4194304 then (some false) else (gauss_Good.l0 k x5 x6 (wrap64 (x7 + 1))))))) else (none)) else (none)) else (some true)
def gauss_Good.f (k : Nat) (l0 : List (S23)) : Option (Bool) := gauss_Good.l0 k l0 (l0.length : Int) 0
theorem gauss_Good.mono_l : ∀ k, (∀ y0 y1 y2, LeO (gauss_Good.l0 k y0 y1 y2) (gauss_Good.l0 (k + 1) y0 y1 y2))
  | 0 => fun _ _ _ r h => by simp [gauss_Good.l0] at h
  | k + 1 => by
    have ih0 := gauss_Good.mono_l k
    · intro y0 y1 y2
      unfold gauss_Good.l0
      repeat' first
      | (with_reducible exact ih0 _ _ _)
      | (with_reducible exact LeO.refl _)
      | (with_reducible exact LeO.none _)
      | (with_reducible refine LeO.ite ?_ ?_)
      | (with_reducible refine LeO.bind ?_ (fun _ => ?_))
      | exact ih0 _ _ _
      | exact LeO.none _
      | refine LeO.ite ?_ ?_
      | refine LeO.bind ?_ (fun _ => ?_)
theorem gauss_Good.mono : ∀ a0 k, LeO (gauss_Good.f k a0) (gauss_Good.f (k + 1) a0) := by
  intro a0 k
  have ih0 := gauss_Good.mono_l k
  unfold gauss_Good.f
  repeat' first
      | (with_reducible exact ih0 _ _ _)
      | (with_reducible exact LeO.refl _)
      | (with_reducible exact LeO.none _)
      | (with_reducible refine LeO.ite ?_ ?_)
      | (with_reducible refine LeO.bind ?_ (fun _ => ?_))
      | exact ih0 _ _ _
      | exact LeO.none _
      | refine LeO.ite ?_ ?_
      | refine LeO.bind ?_ (fun _ => ?_)

-- NOT PRINTED: function 49 (gauss_conj)

-- NOT PRINTED: function 50 (gauss_of)

/-! ### gauss_Cross: function 16 (by hand) -/
-- EXT calamus/gauss.Cross rounds=0 making=1
theorem gauss_Cross.w_id {x : Int} (h1 : -9223372036854775808 ≤ x) (h2 : x < 9223372036854775808) : wrap64 x = x := by
  unfold wrap64
  omega
def gauss_Cross.gd (x y : Int) : Bool := decide (-4194304 ≤ x ∧ x ≤ 4194304 ∧ -4194304 ≤ y ∧ y ≤ 4194304)
theorem gauss_Cross.gd_iff {x y : Int} : gauss_Cross.gd x y = true ↔ (-4194304 ≤ x ∧ x ≤ 4194304 ∧ -4194304 ≤ y ∧ y ≤ 4194304) := by simp [gauss_Cross.gd]
theorem gauss_Cross.good_step (k : Nat) (l : List S23) (n i : Nat) (hi : i < n) (hn : n = l.length) (hs : n < 1000000) :
    gauss_Good.l0 (k + 1) l n i = if gauss_Cross.gd (l.getD i z23).f0 (l.getD i z23).f1 = true then gauss_Good.l0 k l n ((i + 1 : Nat) : Int) else some false := by
  simp only [gauss_Good.l0]
  rw [if_pos (by omega), if_pos (by omega), if_pos (by omega), gauss_Cross.w_id (by omega) (by omega)]
  have e : rd_T23 l (i : Int) = l.getD i z23 := by simp [rd_T23]
  rw [e]
  generalize l.getD i z23 = p
  by_cases h : gauss_Cross.gd p.f0 p.f1 = true
  · rw [if_pos h]
    obtain ⟨h1, h2, h3, h4⟩ := gauss_Cross.gd_iff.1 h
    rw [if_neg (by omega), if_neg (by omega), if_neg (by omega), if_neg (by omega)]
    norm_cast
  · rw [if_neg h]
    have h' : ¬ (-4194304 ≤ p.f0 ∧ p.f0 ≤ 4194304 ∧ -4194304 ≤ p.f1 ∧ p.f1 ≤ 4194304) := fun x => h (gauss_Cross.gd_iff.2 x)
    repeat' split
    all_goals first | rfl | (exfalso; omega)
theorem gauss_Cross.good_end (k : Nat) (l : List S23) (n : Nat) : gauss_Good.l0 (k + 1) l n n = some true := by
  simp only [gauss_Good.l0]
  rw [if_neg (by omega)]
theorem gauss_Cross.good1 (k : Nat) (a b : Int) : gauss_Good.f (k + 2) [⟨a, b⟩] = some (gauss_Cross.gd a b) := by
  unfold gauss_Good.f
  show gauss_Good.l0 (k + 1 + 1) _ ((1 : Nat) : Int) ((0 : Nat) : Int) = _
  rw [gauss_Cross.good_step _ _ 1 0 (by omega) rfl (by omega), gauss_Cross.good_end]
  simp only [List.getD_cons_zero]
  cases gauss_Cross.gd a b <;> rfl
theorem gauss_Cross.good2 (k : Nat) (a b c d : Int) : gauss_Good.f (k + 3) [⟨a, b⟩, ⟨c, d⟩] = some (gauss_Cross.gd a b && gauss_Cross.gd c d) := by
  unfold gauss_Good.f
  show gauss_Good.l0 (k + 2 + 1) _ ((2 : Nat) : Int) ((0 : Nat) : Int) = _
  rw [gauss_Cross.good_step _ _ 2 0 (by omega) rfl (by omega), gauss_Cross.good_step _ _ 2 1 (by omega) rfl (by omega), gauss_Cross.good_end]
  simp only [List.getD_cons_zero, List.getD_cons_succ]
  cases gauss_Cross.gd a b <;> cases gauss_Cross.gd c d <;> rfl
theorem gauss_Cross.good3 (k : Nat) (a b c d e f : Int) : gauss_Good.f (k + 4) [⟨a, b⟩, ⟨c, d⟩, ⟨e, f⟩] = some (gauss_Cross.gd a b && gauss_Cross.gd c d && gauss_Cross.gd e f) := by
  unfold gauss_Good.f
  show gauss_Good.l0 (k + 3 + 1) _ ((3 : Nat) : Int) ((0 : Nat) : Int) = _
  rw [gauss_Cross.good_step _ _ 3 0 (by omega) rfl (by omega), gauss_Cross.good_step _ _ 3 1 (by omega) rfl (by omega), gauss_Cross.good_step _ _ 3 2 (by omega) rfl (by omega), gauss_Cross.good_end]
  simp only [List.getD_cons_zero, List.getD_cons_succ]
  cases gauss_Cross.gd a b <;> cases gauss_Cross.gd c d <;> cases gauss_Cross.gd e f <;> rfl
theorem gauss_Cross.abs_mul {x y : Int} (hx : -4194304 ≤ x ∧ x ≤ 4194304) (hy : -4194304 ≤ y ∧ y ≤ 4194304) : (x * y).natAbs < 2 ^ 52 := by
  rw [Int.natAbs_mul]
  have h1 : x.natAbs ≤ 4194304 := by omega
  have h2 : y.natAbs ≤ 4194304 := by omega
  have := Nat.mul_le_mul h1 h2
  omega
theorem gauss_Cross.isof {x : Int} (hx : -4194304 ≤ x ∧ x ≤ 4194304) : Fl.Is (Fl.of x) x := Fl.is_of x (by omega)
theorem gauss_Cross.prod_ok {a b c d : Int} (h1 : -4194304 ≤ a ∧ a ≤ 4194304 ∧ -4194304 ≤ b ∧ b ≤ 4194304) (h2 : -4194304 ≤ c ∧ c ≤ 4194304 ∧ -4194304 ≤ d ∧ d ≤ 4194304) :
    ∃ re im, cMulBits (Fl.of a) (Op.negFloat .f64 (Fl.of b)) (Fl.of c) (Fl.of d) = some (re, im) ∧ Fl.Is re (a * c + b * d) ∧ Fl.Is im (a * d - b * c) := by
  have ha := gauss_Cross.isof ⟨h1.1, h1.2.1⟩
  have hb := Fl.neg (gauss_Cross.isof ⟨h1.2.2.1, h1.2.2.2⟩)
  have hc := gauss_Cross.isof ⟨h2.1, h2.2.1⟩
  have hd := gauss_Cross.isof ⟨h2.2.2.1, h2.2.2.2⟩
  obtain ⟨re, im, e, i1, i2⟩ := Fl.cmul ha hb hc hd (gauss_Cross.abs_mul ⟨h1.1, h1.2.1⟩ ⟨h2.1, h2.2.1⟩) (gauss_Cross.abs_mul (by omega) ⟨h2.2.2.1, h2.2.2.2⟩) (gauss_Cross.abs_mul ⟨h1.1, h1.2.1⟩ ⟨h2.2.2.1, h2.2.2.2⟩) (gauss_Cross.abs_mul (by omega) ⟨h2.1, h2.2.1⟩)
  refine ⟨re, im, e, ?_, ?_⟩
  · rw [Int.neg_mul] at i1
    rw [show a * c + b * d = a * c - -(b * d) by omega]
    exact i1
  · rw [Int.neg_mul] at i2
    rw [show a * d - b * c = a * d + -(b * c) by omega]
    exact i2
def gauss_Cross.f (a0_0 a0_1 a1_0 a1_1 : Int) : Option (Int × Int) := if (gauss_Cross.gd a0_0 a0_1 && gauss_Cross.gd a1_0 a1_1) = true then some (a0_0 * a1_1 - a0_1 * a1_0, 0) else some (0, 6)

/-! ### gauss_Dot: function 17 (by hand) -/
-- EXT calamus/gauss.Dot rounds=0 making=1
def gauss_Dot.f (a0_0 a0_1 a1_0 a1_1 : Int) : Option (Int × Int) := if (gauss_Cross.gd a0_0 a0_1 && gauss_Cross.gd a1_0 a1_1) = true then some (a0_0 * a1_0 + a0_1 * a1_1, 0) else some (0, 6)

/-! ### gauss_Times: function 18 (by hand) -/
-- EXT calamus/gauss.Times rounds=0 making=1
def gauss_Times.f (a0_0 a0_1 a1_0 a1_1 : Int) : Option (Int × Int × Int) := if (gauss_Cross.gd a0_0 a0_1 && gauss_Cross.gd a1_0 a1_1) = true then some (a0_0 * a1_0 - a0_1 * a1_1, a0_0 * a1_1 + a0_1 * a1_0, 0) else some (0, 0, 6)

/-! ### gauss_Area: function 22 (by hand) -/
-- EXT calamus/gauss.Area rounds=1 making=1
def gauss_Area.st (l : List S23) (z : S23) : Nat → Int × S23
  | 0 => (0, z)
  | j + 1 => (wrap64 ((gauss_Area.st l z j).1 + ((gauss_Area.st l z j).2.f0 * (l.getD j z23).f1 - (gauss_Area.st l z j).2.f1 * (l.getD j z23).f0)), l.getD j z23)
def gauss_Area.f (k : Nat) (l0 : List S23) : Option (Int × Int) := if (l0.length : Int) > 4096 then some (0, 7) else (gauss_Good.f k l0).bind fun g => if g = true then (if (l0.length : Int) = 0 then some (0, 0) else some ((gauss_Area.st l0 (l0.getD (l0.length - 1) z23) l0.length).1, 0)) else some (0, 6)
theorem gauss_Area.mono : ∀ a0 k, LeO (gauss_Area.f k a0) (gauss_Area.f (k + 1) a0) := by
  intro a0 k
  unfold gauss_Area.f
  exact LeO.ite (LeO.refl _) (LeO.bind (gauss_Good.mono a0 k) (fun _ => LeO.refl _))

/-! ### gauss_Quarter: function 29 (by hand) -/
-- EXT calamus/gauss.Quarter rounds=0 making=1
def gauss_Quarter.q (x y : Int) : Nat → Int × Int
  | 0 => (x, y)
  | j + 1 => (-(gauss_Quarter.q x y j).2, (gauss_Quarter.q x y j).1)
def gauss_Quarter.f (a0_0 a0_1 a1 : Int) : Option (Int × Int × Int) := if (gauss_Cross.gd a0_0 a0_1) = true then some ((gauss_Quarter.q a0_0 a0_1 (a1 % 4).toNat).1, (gauss_Quarter.q a0_0 a0_1 (a1 % 4).toNat).2, 0) else some (0, 0, 6)

/-! ### calamuslaw10_alive: function 14 -/
def calamuslaw10_alive.f (k : Nat)  : Option (Bool) := (gauss_Cross.f 3 1 2 4).bind fun bt105 => ((gauss_Dot.f 3 1 2 4).bind fun bt107 => ((gauss_Times.f 3 1 2 4).bind fun bt109 => ((gauss_Quarter.f 3 1 1).bind fun bt113 => ((gauss_Area.f k (([(⟨0, 0⟩ : S23), (⟨4, 0⟩ : S23), (⟨0, 3⟩ : S23)] : List (S23)))).bind fun bt120 => ((gauss_Cross.f 4194305 0 3 1).bind fun bt122 => (if bt105.1 = 10 then (if bt107.1 = 10 then (if (bt109.1 == 2 && (bt109.2.1 == 14)) = true then (if (bt113.1 == (-1) && (bt113.2.1 == 3)) = true then (if bt120.1 = 12 then (if bt105.2 = 0 then (if bt107.2 = 0 then (if bt109.2.2 = 0 then (if bt113.2.2 = 0 then (if bt120.2 = 0 then (some (bt122.2 == 6)) else (none)) else (none)) else (none)) else (none)) else (none)) else (none)) else (none)) else (none)) else (none)) else (none)))))))
theorem calamuslaw10_alive.mono : ∀ k, LeO (calamuslaw10_alive.f k ) (calamuslaw10_alive.f (k + 1) ) := by
  intro  k
  unfold calamuslaw10_alive.f
  repeat' first
      | (with_reducible exact gauss_Area.mono _ _)
      | (with_reducible exact LeO.refl _)
      | (with_reducible exact LeO.none _)
      | (with_reducible refine LeO.ite ?_ ?_)
      | (with_reducible refine LeO.bind ?_ (fun _ => ?_))
      | exact gauss_Area.mono _ _
      | exact LeO.none _
      | refine LeO.ite ?_ ?_
      | refine LeO.bind ?_ (fun _ => ?_)

/-! ### calamusref10_Good: function 15 -/
def calamusref10_Good.f (a0_0 : Int) (a0_1 : Int) : Option (Bool) := if a0_0 ≥ (-4194304) then (if a0_0 ≤ 4194304 then (if a0_1 ≥ (-4194304) then (some (decide (a0_1 ≤ 4194304))) else (some false)) else (some false)) else (some false)

/-! ### calamusref10_Cross: function 20 -/
def calamusref10_Cross.f (a0_0 : Int) (a0_1 : Int) (a1_0 : Int) (a1_1 : Int) : Option (Int) := some (wrap64 ((wrap64 (a0_0 * a1_1)) - (wrap64 (a0_1 * a1_0))))

/-! ### calamusref10_Dot: function 21 -/
def calamusref10_Dot.f (a0_0 : Int) (a0_1 : Int) (a1_0 : Int) (a1_1 : Int) : Option (Int) := some (wrap64 ((wrap64 (a0_0 * a1_0)) + (wrap64 (a0_1 * a1_1))))

/-! ### calamuslaw10_GaussProducts: function 3 -/
mutual
def calamuslaw10_GaussProducts.j0 : Nat → Bool → Int → Int → Int → Int → Option (Bool)
  | 0, _, _, _, _, _ => none
  | k + 1, x5, x130000, x130001, x131000, x131001 => (gauss_Cross.f x130000 x130001 x131000 x131001).bind fun bt134 => ((gauss_Dot.f x130000 x130001 x131000 x131001).bind fun bt136 => ((gauss_Times.f x130000 x130001 x131000 x131001).bind fun bt138 => ((gauss_Good.f k (([(⟨x130000, x130001⟩ : S23), (⟨x131000, x131001⟩ : S23)] : List (S23)))).bind fun t145 => (if (t145 != x5) = true then (calamuslaw10_GaussProducts.j1 k x5 bt134.1 bt134.2 bt136.1 bt136.2 bt138.2.2 true x130000 x130001 x131000 x131001 bt138.1 bt138.2.1) else ((gauss_Good.f k (([(⟨x130000, x130001⟩ : S23)] : List (S23)))).bind fun t149 => ((calamusref10_Good.f x130000 x130001).bind fun t150 => (if (t149 != t150) = true then (calamuslaw10_GaussProducts.j1 k x5 bt134.1 bt134.2 bt136.1 bt136.2 bt138.2.2 true x130000 x130001 x131000 x131001 bt138.1 bt138.2.1) else ((gauss_Good.f k ([] : List (S23))).bind fun t151 => (calamuslaw10_GaussProducts.j1 k x5 bt134.1 bt134.2 bt136.1 bt136.2 bt138.2.2 (!t151) x130000 x130001 x131000 x131001 bt138.1 bt138.2.1)))))))))
def calamuslaw10_GaussProducts.j1 : Nat → Bool → Int → Int → Int → Int → Int → Bool → Int → Int → Int → Int → Int → Int → Option (Bool)
  | 0, _, _, _, _, _, _, _, _, _, _, _, _, _ => none
  | k + 1, x5, x6, x7, x8, x9, x11, x55, x130000, x130001, x131000, x131001, x142000, x142001 => if x55 = true then (none) else (if x5 = true then (if x7 = 0 then (if x9 = 0 then (if x11 = 0 then ((calamusref10_Cross.f x130000 x130001 x131000 x131001).bind fun t152 => (if x6 = t152 then ((calamusref10_Dot.f x130000 x130001 x131000 x131001).bind fun t153 => (if x8 = t153 then ((calamusref10_Dot.f x130000 (wrap64 (-x130001)) x131000 x131001).bind fun t154 => ((calamusref10_Cross.f x130000 (wrap64 (-x130001)) x131000 x131001).bind fun t155 => (some (x142000 == t154 && (x142001 == t155))))) else (none))) else (none))) else (none)) else (none)) else (none)) else (if x7 = 6 then (if x9 = 6 then (if x11 = 6 then (if x6 = 0 then (if x8 = 0 then (some (x142000 == 0 && (x142001 == 0))) else (none)) else (none)) else (none)) else (none)) else (none)))
end
def calamuslaw10_GaussProducts.f (k : Nat) (a0_0 : Int) (a0_1 : Int) (a1_0 : Int) (a1_1 : Int) : Option (Bool) := (calamuslaw10_alive.f k).bind fun t131 => (if t131 = true then ((calamusref10_Good.f a0_0 a0_1).bind fun t132 => (if t132 = true then ((calamusref10_Good.f a1_0 a1_1).bind fun t133 => (calamuslaw10_GaussProducts.j0 k t133 a0_0 a0_1 a1_0 a1_1)) else (calamuslaw10_GaussProducts.j0 k false a0_0 a0_1 a1_0 a1_1))) else (none))
theorem calamuslaw10_GaussProducts.mono_l : ∀ k, (∀ y0 y1 y2 y3 y4, LeO (calamuslaw10_GaussProducts.j0 k y0 y1 y2 y3 y4) (calamuslaw10_GaussProducts.j0 (k + 1) y0 y1 y2 y3 y4)) ∧ (∀ y0 y1 y2 y3 y4 y5 y6 y7 y8 y9 y10 y11 y12, LeO (calamuslaw10_GaussProducts.j1 k y0 y1 y2 y3 y4 y5 y6 y7 y8 y9 y10 y11 y12) (calamuslaw10_GaussProducts.j1 (k + 1) y0 y1 y2 y3 y4 y5 y6 y7 y8 y9 y10 y11 y12))
  | 0 => ⟨fun _ _ _ _ _ r h => by simp [calamuslaw10_GaussProducts.j0] at h, fun _ _ _ _ _ _ _ _ _ _ _ _ _ r h => by simp [calamuslaw10_GaussProducts.j1] at h⟩
  | k + 1 => by
    obtain ⟨ih0, ih1⟩ := calamuslaw10_GaussProducts.mono_l k
    refine ⟨?_, ?_⟩
    · intro y0 y1 y2 y3 y4
      unfold calamuslaw10_GaussProducts.j0
      repeat' first
      | (with_reducible exact ih0 _ _ _ _ _)
      | (with_reducible exact ih1 _ _ _ _ _ _ _ _ _ _ _ _ _)
      | (with_reducible exact calamuslaw10_alive.mono _)
      | (with_reducible exact gauss_Good.mono _ _)
      | (with_reducible exact LeO.refl _)
      | (with_reducible exact LeO.none _)
      | (with_reducible refine LeO.ite ?_ ?_)
      | (with_reducible refine LeO.bind ?_ (fun _ => ?_))
      | exact ih0 _ _ _ _ _
      | exact ih1 _ _ _ _ _ _ _ _ _ _ _ _ _
      | exact calamuslaw10_alive.mono _
      | exact gauss_Good.mono _ _
      | exact LeO.none _
      | refine LeO.ite ?_ ?_
      | refine LeO.bind ?_ (fun _ => ?_)
    · intro y0 y1 y2 y3 y4 y5 y6 y7 y8 y9 y10 y11 y12
      unfold calamuslaw10_GaussProducts.j1
      repeat' first
      | (with_reducible exact ih0 _ _ _ _ _)
      | (with_reducible exact ih1 _ _ _ _ _ _ _ _ _ _ _ _ _)
      | (with_reducible exact calamuslaw10_alive.mono _)
      | (with_reducible exact gauss_Good.mono _ _)
      | (with_reducible exact LeO.refl _)
      | (with_reducible exact LeO.none _)
      | (with_reducible refine LeO.ite ?_ ?_)
      | (with_reducible refine LeO.bind ?_ (fun _ => ?_))
      | exact ih0 _ _ _ _ _
      | exact ih1 _ _ _ _ _ _ _ _ _ _ _ _ _
      | exact calamuslaw10_alive.mono _
      | exact gauss_Good.mono _ _
      | exact LeO.none _
      | refine LeO.ite ?_ ?_
      | refine LeO.bind ?_ (fun _ => ?_)
theorem calamuslaw10_GaussProducts.mono : ∀ a0 a1 a2 a3 k, LeO (calamuslaw10_GaussProducts.f k a0 a1 a2 a3) (calamuslaw10_GaussProducts.f (k + 1) a0 a1 a2 a3) := by
  intro a0 a1 a2 a3 k
  obtain ⟨ih0, ih1⟩ := calamuslaw10_GaussProducts.mono_l k
  unfold calamuslaw10_GaussProducts.f
  repeat' first
      | (with_reducible exact ih0 _ _ _ _ _)
      | (with_reducible exact ih1 _ _ _ _ _ _ _ _ _ _ _ _ _)
      | (with_reducible exact calamuslaw10_alive.mono _)
      | (with_reducible exact gauss_Good.mono _ _)
      | (with_reducible exact LeO.refl _)
      | (with_reducible exact LeO.none _)
      | (with_reducible refine LeO.ite ?_ ?_)
      | (with_reducible refine LeO.bind ?_ (fun _ => ?_))
      | exact ih0 _ _ _ _ _
      | exact ih1 _ _ _ _ _ _ _ _ _ _ _ _ _
      | exact calamuslaw10_alive.mono _
      | exact gauss_Good.mono _ _
      | exact LeO.none _
      | refine LeO.ite ?_ ?_
      | refine LeO.bind ?_ (fun _ => ?_)

/-! ### calamusref10_Same: function 23 -/
def calamusref10_Same.l0 : Nat → List (S23) → List (S23) → Int → Int → Option (Bool)
  | 0, _, _, _, _ => none
  | k + 1, x0, x1, x12, x13 => if x13 < x12 then (if 0 ≤ x13 then (if x13 < (x0.length : Int) then (if x13 < (x1.length : Int) then (if (!(((rd_T23 x0 x13).f0) == ((rd_T23 x1 x13).f0)) || (!(((rd_T23 x0 x13).f1) == ((rd_T23 x1 x13).f1)))) = true then (some false) else (calamusref10_Same.l0 k x0 x1 x12 (wrap64 (x13 + 1)))) else (none)) else (none)) else (none)) else (some true)
def calamusref10_Same.f (k : Nat) (l0 : List (S23)) (l1 : List (S23)) : Option (Bool) := if (l0.length : Int) = (l1.length : Int) then (calamusref10_Same.l0 k l0 l1 (l0.length : Int) 0) else (some false)
theorem calamusref10_Same.mono_l : ∀ k, (∀ y0 y1 y2 y3, LeO (calamusref10_Same.l0 k y0 y1 y2 y3) (calamusref10_Same.l0 (k + 1) y0 y1 y2 y3))
  | 0 => fun _ _ _ _ r h => by simp [calamusref10_Same.l0] at h
  | k + 1 => by
    have ih0 := calamusref10_Same.mono_l k
    · intro y0 y1 y2 y3
      unfold calamusref10_Same.l0
      repeat' first
      | (with_reducible exact ih0 _ _ _ _)
      | (with_reducible exact LeO.refl _)
      | (with_reducible exact LeO.none _)
      | (with_reducible refine LeO.ite ?_ ?_)
      | (with_reducible refine LeO.bind ?_ (fun _ => ?_))
      | exact ih0 _ _ _ _
      | exact LeO.none _
      | refine LeO.ite ?_ ?_
      | refine LeO.bind ?_ (fun _ => ?_)
theorem calamusref10_Same.mono : ∀ a0 a1 k, LeO (calamusref10_Same.f k a0 a1) (calamusref10_Same.f (k + 1) a0 a1) := by
  intro a0 a1 k
  have ih0 := calamusref10_Same.mono_l k
  unfold calamusref10_Same.f
  repeat' first
      | (with_reducible exact ih0 _ _ _ _)
      | (with_reducible exact LeO.refl _)
      | (with_reducible exact LeO.none _)
      | (with_reducible refine LeO.ite ?_ ?_)
      | (with_reducible refine LeO.bind ?_ (fun _ => ?_))
      | exact ih0 _ _ _ _
      | exact LeO.none _
      | refine LeO.ite ?_ ?_
      | refine LeO.bind ?_ (fun _ => ?_)

/-! ### calamusref10_All: function 24 -/
def calamusref10_All.l0 : Nat → List (S23) → Int → Int → Option (Bool)
  | 0, _, _, _ => none
  | k + 1, x5, x6, x7 => if x7 < x6 then (if 0 ≤ x7 then (if x7 < (x5.length : Int) then ((calamusref10_Good.f ((rd_T23 x5 x7).f0) ((rd_T23 x5 x7).f1)).bind fun t160 => (if t160 = true then (calamusref10_All.l0 k x5 x6 (wrap64 (x7 + 1))) else (some false))) else (none)) else (none)) else (some true)
def calamusref10_All.f (k : Nat) (l0 : List (S23)) : Option (Bool) := calamusref10_All.l0 k l0 (l0.length : Int) 0
theorem calamusref10_All.mono_l : ∀ k, (∀ y0 y1 y2, LeO (calamusref10_All.l0 k y0 y1 y2) (calamusref10_All.l0 (k + 1) y0 y1 y2))
  | 0 => fun _ _ _ r h => by simp [calamusref10_All.l0] at h
  | k + 1 => by
    have ih0 := calamusref10_All.mono_l k
    · intro y0 y1 y2
      unfold calamusref10_All.l0
      repeat' first
      | (with_reducible exact ih0 _ _ _)
      | (with_reducible exact LeO.refl _)
      | (with_reducible exact LeO.none _)
      | (with_reducible refine LeO.ite ?_ ?_)
      | (with_reducible refine LeO.bind ?_ (fun _ => ?_))
      | exact ih0 _ _ _
      | exact LeO.none _
      | refine LeO.ite ?_ ?_
      | refine LeO.bind ?_ (fun _ => ?_)
theorem calamusref10_All.mono : ∀ a0 k, LeO (calamusref10_All.f k a0) (calamusref10_All.f (k + 1) a0) := by
  intro a0 k
  have ih0 := calamusref10_All.mono_l k
  unfold calamusref10_All.f
  repeat' first
      | (with_reducible exact ih0 _ _ _)
      | (with_reducible exact LeO.refl _)
      | (with_reducible exact LeO.none _)
      | (with_reducible refine LeO.ite ?_ ?_)
      | (with_reducible refine LeO.bind ?_ (fun _ => ?_))
      | exact ih0 _ _ _
      | exact LeO.none _
      | refine LeO.ite ?_ ?_
      | refine LeO.bind ?_ (fun _ => ?_)

/-! ### calamusref10_Area: function 25 -/
def calamusref10_Area.l0 : Nat → List (S23) → Int → Int → Int → Option (Int)
  | 0, _, _, _, _ => none
  | k + 1, x0, x3, x6, x7 => if x7 < x6 then (if 0 ≤ x7 then (if x7 < (x0.length : Int) then (if (x0.length : Int) = 0 then (none) else (if 0 ≤ (Int.tmod (wrap64 (x7 + 1)) (x0.length : Int)) then (if (Int.tmod (wrap64 (x7 + 1)) (x0.length : Int)) < (x0.length : Int) then ((calamusref10_Cross.f ((rd_T23 x0 x7).f0) ((rd_T23 x0 x7).f1) ((rd_T23 x0 (Int.tmod (wrap64 (x7 + 1)) (x0.length : Int))).f0) ((rd_T23 x0 (Int.tmod (wrap64 (x7 + 1)) (x0.length : Int))).f1)).bind fun t163 => (calamusref10_Area.l0 k x0 (wrap64 (x3 + t163)) x6 (wrap64 (x7 + 1)))) else (none)) else (none))) else (none)) else (none)) else (some x3)
def calamusref10_Area.f (k : Nat) (l0 : List (S23)) : Option (Int) := calamusref10_Area.l0 k l0 0 (l0.length : Int) 0
theorem calamusref10_Area.mono_l : ∀ k, (∀ y0 y1 y2 y3, LeO (calamusref10_Area.l0 k y0 y1 y2 y3) (calamusref10_Area.l0 (k + 1) y0 y1 y2 y3))
  | 0 => fun _ _ _ _ r h => by simp [calamusref10_Area.l0] at h
  | k + 1 => by
    have ih0 := calamusref10_Area.mono_l k
    · intro y0 y1 y2 y3
      unfold calamusref10_Area.l0
      repeat' first
      | (with_reducible exact ih0 _ _ _ _)
      | (with_reducible exact LeO.refl _)
      | (with_reducible exact LeO.none _)
      | (with_reducible refine LeO.ite ?_ ?_)
      | (with_reducible refine LeO.bind ?_ (fun _ => ?_))
      | exact ih0 _ _ _ _
      | exact LeO.none _
      | refine LeO.ite ?_ ?_
      | refine LeO.bind ?_ (fun _ => ?_)
theorem calamusref10_Area.mono : ∀ a0 k, LeO (calamusref10_Area.f k a0) (calamusref10_Area.f (k + 1) a0) := by
  intro a0 k
  have ih0 := calamusref10_Area.mono_l k
  unfold calamusref10_Area.f
  repeat' first
      | (with_reducible exact ih0 _ _ _ _)
      | (with_reducible exact LeO.refl _)
      | (with_reducible exact LeO.none _)
      | (with_reducible refine LeO.ite ?_ ?_)
      | (with_reducible refine LeO.bind ?_ (fun _ => ?_))
      | exact ih0 _ _ _ _
      | exact LeO.none _
      | refine LeO.ite ?_ ?_
      | refine LeO.bind ?_ (fun _ => ?_)

/-! ### calamuslaw10_GaussAreas: function 4 -/
def calamuslaw10_GaussAreas.f (k : Nat) (l0 : List (S23)) : Option (Bool) := (calamuslaw10_alive.f k).bind fun t164 => (if t164 = true then ((some (([] : List (S23)) : List (S23))).bind fun y165 => (if y165.length + l0.length < 8796093022208 then ((some (y165 ++ l0 : List (S23))).bind fun y168 => ((gauss_Area.f k y168).bind fun bt171 => ((calamusref10_Same.f k y168 l0).bind fun t173 => (if t173 = true then (if (l0.length : Int) > 4096 then (if bt171.2 = 7 then (some (bt171.1 == 0)) else (none)) else ((calamusref10_All.f k l0).bind fun t174 => (if t174 = true then (if bt171.2 = 0 then ((calamusref10_Area.f k l0).bind fun t175 => (some (bt171.1 == t175))) else (none)) else (if bt171.2 = 6 then (some (bt171.1 == 0)) else (none))))) else (none))))) else (none))) else (none))
theorem calamuslaw10_GaussAreas.mono : ∀ a0 k, LeO (calamuslaw10_GaussAreas.f k a0) (calamuslaw10_GaussAreas.f (k + 1) a0) := by
  intro a0 k
  unfold calamuslaw10_GaussAreas.f
  repeat' first
      | (with_reducible exact calamuslaw10_alive.mono _)
      | (with_reducible exact calamusref10_All.mono _ _)
      | (with_reducible exact calamusref10_Area.mono _ _)
      | (with_reducible exact calamusref10_Same.mono _ _ _)
      | (with_reducible exact gauss_Area.mono _ _)
      | (with_reducible exact LeO.refl _)
      | (with_reducible exact LeO.none _)
      | (with_reducible refine LeO.ite ?_ ?_)
      | (with_reducible refine LeO.bind ?_ (fun _ => ?_))
      | exact calamuslaw10_alive.mono _
      | exact calamusref10_All.mono _ _
      | exact calamusref10_Area.mono _ _
      | exact calamusref10_Same.mono _ _ _
      | exact gauss_Area.mono _ _
      | exact LeO.none _
      | refine LeO.ite ?_ ?_
      | refine LeO.bind ?_ (fun _ => ?_)

/-! ### calamuslaw10_small: function 26 -/
def calamuslaw10_small.f (a0 : Int) (a1 : Int) : Option (Int × Int) := some ((wrap64 (a0)) / 2048, (wrap64 (a1)) / 2048)

/-! ### calamusref10_More: function 27 -/
def calamusref10_More.f (a0_0 : Int) (a0_1 : Int) (a1_0 : Int) (a1_1 : Int) : Option (Int × Int) := some (wrap64 (a0_0 + a1_0), wrap64 (a0_1 + a1_1))

/-! ### calamuslaw10_GaussWays: function 6 -/
mutual
def calamuslaw10_GaussWays.j0 : Nat → List (S44) → Int → Bool → Int → Int → Option (Bool)
  | 0, _, _, _, _, _ => none
  | k + 1, x0, x2, x31, x181000, x181001 => if x31 = true then (some true) else (if (x0.length : Int) = 0 then (none) else (calamuslaw10_GaussWays.l0 k x0 (Int.tmod (wrap64 (x2)) (x0.length : Int)) ([] : List (S23)) ([] : List (S23)) ([] : List (S23)) (x0.length : Int) 0 x181000 x181001))
def calamuslaw10_GaussWays.l0 : Nat → List (S44) → Int → List (S23) → List (S23) → List (S23) → Int → Int → Int → Int → Option (Bool)
  | 0, _, _, _, _, _, _, _, _, _ => none
  | k + 1, x0, x7, x8, x9, x10, x38, x39, x181000, x181001 => if x39 < x38 then (if 0 ≤ x39 then (if x39 < (x0.length : Int) then ((calamuslaw10_small.f ((rd_T44 x0 x39).f0) ((rd_T44 x0 x39).f1)).bind fun bt184 => ((some (([(⟨bt184.1, bt184.2⟩ : S23)] : List (S23)) : List (S23))).bind fun y186 => (if x8.length + y186.length < 8796093022208 then (if (x0.length : Int) = 0 then (none) else (if 0 ≤ (Int.tmod (wrap64 (x39 + x7)) (x0.length : Int)) then (if (Int.tmod (wrap64 (x39 + x7)) (x0.length : Int)) < (x0.length : Int) then ((calamuslaw10_small.f ((rd_T44 x0 (Int.tmod (wrap64 (x39 + x7)) (x0.length : Int))).f0) ((rd_T44 x0 (Int.tmod (wrap64 (x39 + x7)) (x0.length : Int))).f1)).bind fun bt194 => ((calamuslaw10_small.f x181000 x181001).bind fun bt196 => ((calamusref10_More.f bt194.1 bt194.2 bt196.1 bt196.2).bind fun bt198 => ((some (([(⟨bt198.1, bt198.2⟩ : S23)] : List (S23)) : List (S23))).bind fun y200 => (if x9.length + y200.length < 8796093022208 then (if 0 ≤ (wrap64 ((wrap64 ((x0.length : Int) - 1)) - x39)) then (if (wrap64 ((wrap64 ((x0.length : Int) - 1)) - x39)) < (x0.length : Int) then ((calamuslaw10_small.f ((rd_T44 x0 (wrap64 ((wrap64 ((x0.length : Int) - 1)) - x39))).f0) ((rd_T44 x0 (wrap64 ((wrap64 ((x0.length : Int) - 1)) - x39))).f1)).bind fun bt208 => ((some (([(⟨bt208.1, bt208.2⟩ : S23)] : List (S23)) : List (S23))).bind fun y210 => (if x10.length + y210.length < 8796093022208 then (calamuslaw10_GaussWays.l0 k x0 x7 (x8 ++ y186) (x9 ++ y200) (x10 ++ y210) x38 (wrap64 (x39 + 1)) x181000 x181001) else (none)))) else (none)) else (none)) else (none)))))) else (none)) else (none))) else (none)))) else (none)) else (none)) else ((gauss_Area.f k x8).bind fun bt216 => ((gauss_Area.f k x9).bind fun bt218 => ((gauss_Area.f k x10).bind fun bt220 => (if 0 ≤ (wrap64 (x7 + 1)) then (if (wrap64 (x7 + 1)) ≤ (x8.length : Int) then ((gauss_Area.f k (x8.take ((wrap64 (x7 + 1)) : Int).toNat)).bind fun bt226 => ((some (([] : List (S23)) : List (S23))).bind fun y228 => (if 0 ≤ x7 then (if x7 ≤ (x8.length : Int) then ((some (x8.drop (x7 : Int).toNat : List (S23))).bind fun y231 => (if y228.length + y231.length < 8796093022208 then ((some (y228 ++ y231 : List (S23))).bind fun y235 => (if 0 < (x8.length : Int) then ((some (([(⟨(rd_T23 x8 0).f0, (rd_T23 x8 0).f1⟩ : S23)] : List (S23)) : List (S23))).bind fun y239 => (if y235.length + y239.length < 8796093022208 then ((gauss_Area.f k (y235 ++ y239)).bind fun bt245 => (if bt216.2 = 0 then (if bt218.2 = 0 then (if bt220.2 = 0 then (if bt226.2 = 0 then (if bt245.2 = 0 then (if bt216.1 = bt218.1 then (if bt216.1 = (wrap64 (-bt220.1)) then (some (bt216.1 == (wrap64 (bt226.1 + bt245.1)))) else (none)) else (none)) else (none)) else (none)) else (none)) else (none)) else (none))) else (none))) else (none))) else (none))) else (none)) else (none)))) else (none)) else (none)))))
end
def calamuslaw10_GaussWays.f (k : Nat) (l0 : List (S44)) (a1_0 : Int) (a1_1 : Int) (a2 : Int) : Option (Bool) := (calamuslaw10_alive.f k).bind fun t181 => (if t181 = true then (if (l0.length : Int) < 3 then (calamuslaw10_GaussWays.j0 k l0 a2 true a1_0 a1_1) else (calamuslaw10_GaussWays.j0 k l0 a2 (decide ((l0.length : Int) > 1000)) a1_0 a1_1)) else (none))
theorem calamuslaw10_GaussWays.mono_l : ∀ k, (∀ y0 y1 y2 y3 y4, LeO (calamuslaw10_GaussWays.j0 k y0 y1 y2 y3 y4) (calamuslaw10_GaussWays.j0 (k + 1) y0 y1 y2 y3 y4)) ∧ (∀ y0 y1 y2 y3 y4 y5 y6 y7 y8, LeO (calamuslaw10_GaussWays.l0 k y0 y1 y2 y3 y4 y5 y6 y7 y8) (calamuslaw10_GaussWays.l0 (k + 1) y0 y1 y2 y3 y4 y5 y6 y7 y8))
  | 0 => ⟨fun _ _ _ _ _ r h => by simp [calamuslaw10_GaussWays.j0] at h, fun _ _ _ _ _ _ _ _ _ r h => by simp [calamuslaw10_GaussWays.l0] at h⟩
  | k + 1 => by
    obtain ⟨ih0, ih1⟩ := calamuslaw10_GaussWays.mono_l k
    refine ⟨?_, ?_⟩
    · intro y0 y1 y2 y3 y4
      unfold calamuslaw10_GaussWays.j0
      repeat' first
      | (with_reducible exact ih0 _ _ _ _ _)
      | (with_reducible exact ih1 _ _ _ _ _ _ _ _ _)
      | (with_reducible exact calamuslaw10_alive.mono _)
      | (with_reducible exact gauss_Area.mono _ _)
      | (with_reducible exact LeO.refl _)
      | (with_reducible exact LeO.none _)
      | (with_reducible refine LeO.ite ?_ ?_)
      | (with_reducible refine LeO.bind ?_ (fun _ => ?_))
      | exact ih0 _ _ _ _ _
      | exact ih1 _ _ _ _ _ _ _ _ _
      | exact calamuslaw10_alive.mono _
      | exact gauss_Area.mono _ _
      | exact LeO.none _
      | refine LeO.ite ?_ ?_
      | refine LeO.bind ?_ (fun _ => ?_)
    · intro y0 y1 y2 y3 y4 y5 y6 y7 y8
      unfold calamuslaw10_GaussWays.l0
      repeat' first
      | (with_reducible exact ih0 _ _ _ _ _)
      | (with_reducible exact ih1 _ _ _ _ _ _ _ _ _)
      | (with_reducible exact calamuslaw10_alive.mono _)
      | (with_reducible exact gauss_Area.mono _ _)
      | (with_reducible exact LeO.refl _)
      | (with_reducible exact LeO.none _)
      | (with_reducible refine LeO.ite ?_ ?_)
      | (with_reducible refine LeO.bind ?_ (fun _ => ?_))
      | exact ih0 _ _ _ _ _
      | exact ih1 _ _ _ _ _ _ _ _ _
      | exact calamuslaw10_alive.mono _
      | exact gauss_Area.mono _ _
      | exact LeO.none _
      | refine LeO.ite ?_ ?_
      | refine LeO.bind ?_ (fun _ => ?_)
theorem calamuslaw10_GaussWays.mono : ∀ a0 a1 a2 a3 k, LeO (calamuslaw10_GaussWays.f k a0 a1 a2 a3) (calamuslaw10_GaussWays.f (k + 1) a0 a1 a2 a3) := by
  intro a0 a1 a2 a3 k
  obtain ⟨ih0, ih1⟩ := calamuslaw10_GaussWays.mono_l k
  unfold calamuslaw10_GaussWays.f
  repeat' first
      | (with_reducible exact ih0 _ _ _ _ _)
      | (with_reducible exact ih1 _ _ _ _ _ _ _ _ _)
      | (with_reducible exact calamuslaw10_alive.mono _)
      | (with_reducible exact gauss_Area.mono _ _)
      | (with_reducible exact LeO.refl _)
      | (with_reducible exact LeO.none _)
      | (with_reducible refine LeO.ite ?_ ?_)
      | (with_reducible refine LeO.bind ?_ (fun _ => ?_))
      | exact ih0 _ _ _ _ _
      | exact ih1 _ _ _ _ _ _ _ _ _
      | exact calamuslaw10_alive.mono _
      | exact gauss_Area.mono _ _
      | exact LeO.none _
      | refine LeO.ite ?_ ?_
      | refine LeO.bind ?_ (fun _ => ?_)

end Go.Proofs.Ytgibokbkobcnaaa.G
