/- What Go functions answer, as Lean functions, and that they do: written by wip/xprint.py of this session (the kit's printer with turns, texts by hand among them). -/
import Derived.Test.YtiicdgimffpckaaW0
import Derived.Test.YtiicdgimffpckaaWe0
namespace Go.Proofs.Ytiicdgimffpckaa.W
open Go.RowKit Go.Proofs.YtiicdgimffpckaaW.PrintWords Go.Proofs.YtiicdgimffpckaaW.PrintLast Go.Proofs.YtiicdgimffpckaaW.PrintMore
attribute [local go_sem] max2_int min2_int max_two min_two max_three min_three max_four min_four   -- for this text's walks alone
set_option linter.unusedVariables false
set_option linter.unusedSimpArgs false

attribute [local go_sem high] eqA28
/-! ### wide_Of: function 19 -/
def wide_Of.f (a0 : Int) : Option (Int × Int) := some (a0 / 9223372036854775808, IntKind.u64.wrap (a0))

/-! ### wide_Small: function 16 -/
def wide_Small.f (a0_0 : Int) (a0_1 : Int) : Option (Int × Bool) := (wide_Of.f (wrap64 (a0_1))).bind fun bt103 => (if (!(a0_0 == bt103.1) || (!(a0_1 == bt103.2))) = true then (some (0, false)) else (some (wrap64 (a0_1), true)))

/-! ### bits_Mul64: function 48 -/
def bits_Mul64.f (a0 : Int) (a1 : Int) : Option (Int × Int) := some (IntKind.u64.wrap ((IntKind.u64.wrap ((IntKind.u64.wrap ((a0 / 4294967296) * (a1 / 4294967296))) + ((IntKind.u64.wrap ((IntKind.u64.wrap ((a0 / 4294967296) * (Go.bits .and .u64 a1 4294967295))) + ((IntKind.u64.wrap ((Go.bits .and .u64 a0 4294967295) * (Go.bits .and .u64 a1 4294967295))) / 4294967296))) / 4294967296))) + ((IntKind.u64.wrap ((Go.bits .and .u64 (IntKind.u64.wrap ((IntKind.u64.wrap ((a0 / 4294967296) * (Go.bits .and .u64 a1 4294967295))) + ((IntKind.u64.wrap ((Go.bits .and .u64 a0 4294967295) * (Go.bits .and .u64 a1 4294967295))) / 4294967296))) 4294967295) + (IntKind.u64.wrap ((Go.bits .and .u64 a0 4294967295) * (a1 / 4294967296))))) / 4294967296)), IntKind.u64.wrap (a0 * a1))

/-! ### wide_Mul: function 21 -/
def wide_Mul.f (a0 : Int) (a1 : Int) : Option (Int × Int) := (bits_Mul64.f (IntKind.u64.wrap (a0)) (IntKind.u64.wrap (a1))).bind fun bt106 => (if a0 < 0 then (if a1 < 0 then (some (wrap64 (IntKind.u64.wrap ((IntKind.u64.wrap (bt106.1 - (IntKind.u64.wrap (a1)))) - (IntKind.u64.wrap (a0)))), bt106.2)) else (some (wrap64 (IntKind.u64.wrap (bt106.1 - (IntKind.u64.wrap (a1)))), bt106.2))) else (if a1 < 0 then (some (wrap64 (IntKind.u64.wrap (bt106.1 - (IntKind.u64.wrap (a0)))), bt106.2)) else (some (wrap64 (bt106.1), bt106.2))))

-- NOT PRINTED: function 52 (bits_Sub64)

/-! ### wide_Sub: function 31 (by hand) -/
-- EXT calamus/wide.Sub rounds=0 making=1
def wide_Sub.f (a0_0 : Int) (a0_1 : Int) (a1_0 : Int) (a1_1 : Int) : Option (Int × Int) :=
  if 0 ≤ a0_1 ∧ a0_1 < 18446744073709551616 ∧ 0 ≤ a1_1 ∧ a1_1 < 18446744073709551616 then
    some (wrap64 ((a0_0 % 18446744073709551616 + 18446744073709551616 - a1_0 % 18446744073709551616 - (if a0_1 < a1_1 then 1 else 0)) % 18446744073709551616), (a0_1 + 18446744073709551616 - a1_1) % 18446744073709551616) else none

/-! ### bits_Len64: function 70 (by hand) -/
-- EXT math/bits.Len64 rounds=0 making=0
def bits_Len64.f (a0 : Int) : Option (Int) := if 0 ≤ a0 ∧ a0 ≤ 18446744073709551615 then some (Lib.bitLen a0.toNat : Int) else none

/-! ### bits_LeadingZeros64: function 64 -/
def bits_LeadingZeros64.f (a0 : Int) : Option (Int) := (bits_Len64.f a0).bind fun t108 => (some (wrap64 (64 - t108)))

/-! ### bits_Div64: function 49 -/
mutual
def bits_Div64.j2 : Nat → Int → Int → Int → Int → Int → Int → Int → Int → Option (Int × Int)
  | 0, _, _, _, _, _, _, _, _ => none
  | k + 1, x2, x8, x9, x10, x11, x13, x14, x15 => if x9 = 0 then (none) else (bits_Div64.l1 k x2 x8 x9 x10 x14 x15 (IntKind.u64.wrap ((IntKind.u64.wrap ((IntKind.u64.wrap ((IntKind.u64.wrap (x11 * 4294967296)) + x13)) - (IntKind.u64.wrap (x15 * x2)))) - (IntKind.u64.wrap ((IntKind.u64.wrap (Int.tdiv (IntKind.u64.wrap ((IntKind.u64.wrap ((IntKind.u64.wrap (x11 * 4294967296)) + x13)) - (IntKind.u64.wrap (x15 * x2)))) x9)) * x9)))) (IntKind.u64.wrap ((IntKind.u64.wrap ((IntKind.u64.wrap (x11 * 4294967296)) + x13)) - (IntKind.u64.wrap (x15 * x2)))) (IntKind.u64.wrap (Int.tdiv (IntKind.u64.wrap ((IntKind.u64.wrap ((IntKind.u64.wrap (x11 * 4294967296)) + x13)) - (IntKind.u64.wrap (x15 * x2)))) x9)))
def bits_Div64.l1 : Nat → Int → Int → Int → Int → Int → Int → Int → Int → Int → Option (Int × Int)
  | 0, _, _, _, _, _, _, _, _, _ => none
  | k + 1, x2, x8, x9, x10, x14, x15, x16, x17, x18 => if x18 ≥ 4294967296 then (bits_Div64.j4 k x2 x8 x9 x10 x14 x15 x16 x17 x18 true) else (bits_Div64.j4 k x2 x8 x9 x10 x14 x15 x16 x17 x18 (decide ((IntKind.u64.wrap (x18 * x10)) > (IntKind.u64.wrap ((IntKind.u64.wrap (4294967296 * x16)) + x14)))))
def bits_Div64.j4 : Nat → Int → Int → Int → Int → Int → Int → Int → Int → Int → Bool → Option (Int × Int)
  | 0, _, _, _, _, _, _, _, _, _, _ => none
  | k + 1, x2, x8, x9, x10, x14, x15, x16, x17, x18, x113 => if x113 = true then (if (IntKind.u64.wrap (x16 + x9)) ≥ 4294967296 then (if 0 ≤ x8 then (some (IntKind.u64.wrap ((IntKind.u64.wrap (x15 * 4294967296)) + (IntKind.u64.wrap (x18 - 1))), shr .u64 (IntKind.u64.wrap ((IntKind.u64.wrap ((IntKind.u64.wrap (x17 * 4294967296)) + x14)) - (IntKind.u64.wrap ((IntKind.u64.wrap (x18 - 1)) * x2)))) x8)) else (none)) else (bits_Div64.l1 k x2 x8 x9 x10 x14 x15 (IntKind.u64.wrap (x16 + x9)) x17 (IntKind.u64.wrap (x18 - 1)))) else (if 0 ≤ x8 then (some (IntKind.u64.wrap ((IntKind.u64.wrap (x15 * 4294967296)) + x18), shr .u64 (IntKind.u64.wrap ((IntKind.u64.wrap ((IntKind.u64.wrap (x17 * 4294967296)) + x14)) - (IntKind.u64.wrap (x18 * x2)))) x8)) else (none))
def bits_Div64.l0 : Nat → Int → Int → Int → Int → Int → Int → Int → Int → Int → Option (Int × Int)
  | 0, _, _, _, _, _, _, _, _, _ => none
  | k + 1, x2, x8, x9, x10, x11, x13, x14, x15, x16 => if x15 ≥ 4294967296 then (bits_Div64.j1 k x2 x8 x9 x10 x11 x13 x14 x15 x16 true) else (bits_Div64.j1 k x2 x8 x9 x10 x11 x13 x14 x15 x16 (decide ((IntKind.u64.wrap (x15 * x10)) > (IntKind.u64.wrap ((IntKind.u64.wrap (4294967296 * x16)) + x13)))))
def bits_Div64.j1 : Nat → Int → Int → Int → Int → Int → Int → Int → Int → Int → Bool → Option (Int × Int)
  | 0, _, _, _, _, _, _, _, _, _, _ => none
  | k + 1, x2, x8, x9, x10, x11, x13, x14, x15, x16, x78 => if x78 = true then (if (IntKind.u64.wrap (x16 + x9)) ≥ 4294967296 then (bits_Div64.j2 k x2 x8 x9 x10 x11 x13 x14 (IntKind.u64.wrap (x15 - 1))) else (bits_Div64.l0 k x2 x8 x9 x10 x11 x13 x14 (IntKind.u64.wrap (x15 - 1)) (IntKind.u64.wrap (x16 + x9)))) else (bits_Div64.j2 k x2 x8 x9 x10 x11 x13 x14 x15)
end
def bits_Div64.f (k : Nat) (a0 : Int) (a1 : Int) (a2 : Int) : Option (Int × Int) := if a2 = 0 then (none) else (if a2 ≤ a0 then (none) else (if a0 = 0 then (some (IntKind.u64.wrap (Int.tdiv a1 a2), Int.tmod a1 a2)) else ((bits_LeadingZeros64.f a2).bind fun t109 => (if 0 ≤ (IntKind.u64.wrap (t109)) then (if 0 ≤ (IntKind.u64.wrap (64 - (IntKind.u64.wrap (t109)))) then (if ((shl .u64 a2 (IntKind.u64.wrap (t109))) / 4294967296) = 0 then (none) else (bits_Div64.l0 k (shl .u64 a2 (IntKind.u64.wrap (t109))) (IntKind.u64.wrap (t109)) ((shl .u64 a2 (IntKind.u64.wrap (t109))) / 4294967296) (Go.bits .and .u64 (shl .u64 a2 (IntKind.u64.wrap (t109))) 4294967295) (Go.bits .or .u64 (shl .u64 a0 (IntKind.u64.wrap (t109))) (shr .u64 a1 (IntKind.u64.wrap (64 - (IntKind.u64.wrap (t109)))))) ((shl .u64 a1 (IntKind.u64.wrap (t109))) / 4294967296) (Go.bits .and .u64 (shl .u64 a1 (IntKind.u64.wrap (t109))) 4294967295) (IntKind.u64.wrap (Int.tdiv (Go.bits .or .u64 (shl .u64 a0 (IntKind.u64.wrap (t109))) (shr .u64 a1 (IntKind.u64.wrap (64 - (IntKind.u64.wrap (t109)))))) ((shl .u64 a2 (IntKind.u64.wrap (t109))) / 4294967296))) (IntKind.u64.wrap ((Go.bits .or .u64 (shl .u64 a0 (IntKind.u64.wrap (t109))) (shr .u64 a1 (IntKind.u64.wrap (64 - (IntKind.u64.wrap (t109)))))) - (IntKind.u64.wrap ((IntKind.u64.wrap (Int.tdiv (Go.bits .or .u64 (shl .u64 a0 (IntKind.u64.wrap (t109))) (shr .u64 a1 (IntKind.u64.wrap (64 - (IntKind.u64.wrap (t109)))))) ((shl .u64 a2 (IntKind.u64.wrap (t109))) / 4294967296))) * ((shl .u64 a2 (IntKind.u64.wrap (t109))) / 4294967296))))))) else (none)) else (none)))))
theorem bits_Div64.mono_l : ∀ k, (∀ y0 y1 y2 y3 y4 y5 y6 y7, LeO (bits_Div64.j2 k y0 y1 y2 y3 y4 y5 y6 y7) (bits_Div64.j2 (k + 1) y0 y1 y2 y3 y4 y5 y6 y7)) ∧ (∀ y0 y1 y2 y3 y4 y5 y6 y7 y8, LeO (bits_Div64.l1 k y0 y1 y2 y3 y4 y5 y6 y7 y8) (bits_Div64.l1 (k + 1) y0 y1 y2 y3 y4 y5 y6 y7 y8)) ∧ (∀ y0 y1 y2 y3 y4 y5 y6 y7 y8 y9, LeO (bits_Div64.j4 k y0 y1 y2 y3 y4 y5 y6 y7 y8 y9) (bits_Div64.j4 (k + 1) y0 y1 y2 y3 y4 y5 y6 y7 y8 y9)) ∧ (∀ y0 y1 y2 y3 y4 y5 y6 y7 y8, LeO (bits_Div64.l0 k y0 y1 y2 y3 y4 y5 y6 y7 y8) (bits_Div64.l0 (k + 1) y0 y1 y2 y3 y4 y5 y6 y7 y8)) ∧ (∀ y0 y1 y2 y3 y4 y5 y6 y7 y8 y9, LeO (bits_Div64.j1 k y0 y1 y2 y3 y4 y5 y6 y7 y8 y9) (bits_Div64.j1 (k + 1) y0 y1 y2 y3 y4 y5 y6 y7 y8 y9))
  | 0 => ⟨fun _ _ _ _ _ _ _ _ r h => by simp [bits_Div64.j2] at h, fun _ _ _ _ _ _ _ _ _ r h => by simp [bits_Div64.l1] at h, fun _ _ _ _ _ _ _ _ _ _ r h => by simp [bits_Div64.j4] at h, fun _ _ _ _ _ _ _ _ _ r h => by simp [bits_Div64.l0] at h, fun _ _ _ _ _ _ _ _ _ _ r h => by simp [bits_Div64.j1] at h⟩
  | k + 1 => by
    obtain ⟨ih0, ih1, ih2, ih3, ih4⟩ := bits_Div64.mono_l k
    refine ⟨?_, ?_, ?_, ?_, ?_⟩
    · intro y0 y1 y2 y3 y4 y5 y6 y7
      unfold bits_Div64.j2
      repeat' first
      | (with_reducible exact ih0 _ _ _ _ _ _ _ _)
      | (with_reducible exact ih1 _ _ _ _ _ _ _ _ _)
      | (with_reducible exact ih2 _ _ _ _ _ _ _ _ _ _)
      | (with_reducible exact ih3 _ _ _ _ _ _ _ _ _)
      | (with_reducible exact ih4 _ _ _ _ _ _ _ _ _ _)
      | (with_reducible exact LeO.refl _)
      | (with_reducible exact LeO.none _)
      | (with_reducible refine LeO.ite ?_ ?_)
      | (with_reducible refine LeO.bind ?_ (fun _ => ?_))
      | exact ih0 _ _ _ _ _ _ _ _
      | exact ih1 _ _ _ _ _ _ _ _ _
      | exact ih2 _ _ _ _ _ _ _ _ _ _
      | exact ih3 _ _ _ _ _ _ _ _ _
      | exact ih4 _ _ _ _ _ _ _ _ _ _
      | exact LeO.none _
      | refine LeO.ite ?_ ?_
      | refine LeO.bind ?_ (fun _ => ?_)
    · intro y0 y1 y2 y3 y4 y5 y6 y7 y8
      unfold bits_Div64.l1
      repeat' first
      | (with_reducible exact ih0 _ _ _ _ _ _ _ _)
      | (with_reducible exact ih1 _ _ _ _ _ _ _ _ _)
      | (with_reducible exact ih2 _ _ _ _ _ _ _ _ _ _)
      | (with_reducible exact ih3 _ _ _ _ _ _ _ _ _)
      | (with_reducible exact ih4 _ _ _ _ _ _ _ _ _ _)
      | (with_reducible exact LeO.refl _)
      | (with_reducible exact LeO.none _)
      | (with_reducible refine LeO.ite ?_ ?_)
      | (with_reducible refine LeO.bind ?_ (fun _ => ?_))
      | exact ih0 _ _ _ _ _ _ _ _
      | exact ih1 _ _ _ _ _ _ _ _ _
      | exact ih2 _ _ _ _ _ _ _ _ _ _
      | exact ih3 _ _ _ _ _ _ _ _ _
      | exact ih4 _ _ _ _ _ _ _ _ _ _
      | exact LeO.none _
      | refine LeO.ite ?_ ?_
      | refine LeO.bind ?_ (fun _ => ?_)
    · intro y0 y1 y2 y3 y4 y5 y6 y7 y8 y9
      unfold bits_Div64.j4
      repeat' first
      | (with_reducible exact ih0 _ _ _ _ _ _ _ _)
      | (with_reducible exact ih1 _ _ _ _ _ _ _ _ _)
      | (with_reducible exact ih2 _ _ _ _ _ _ _ _ _ _)
      | (with_reducible exact ih3 _ _ _ _ _ _ _ _ _)
      | (with_reducible exact ih4 _ _ _ _ _ _ _ _ _ _)
      | (with_reducible exact LeO.refl _)
      | (with_reducible exact LeO.none _)
      | (with_reducible refine LeO.ite ?_ ?_)
      | (with_reducible refine LeO.bind ?_ (fun _ => ?_))
      | exact ih0 _ _ _ _ _ _ _ _
      | exact ih1 _ _ _ _ _ _ _ _ _
      | exact ih2 _ _ _ _ _ _ _ _ _ _
      | exact ih3 _ _ _ _ _ _ _ _ _
      | exact ih4 _ _ _ _ _ _ _ _ _ _
      | exact LeO.none _
      | refine LeO.ite ?_ ?_
      | refine LeO.bind ?_ (fun _ => ?_)
    · intro y0 y1 y2 y3 y4 y5 y6 y7 y8
      unfold bits_Div64.l0
      repeat' first
      | (with_reducible exact ih0 _ _ _ _ _ _ _ _)
      | (with_reducible exact ih1 _ _ _ _ _ _ _ _ _)
      | (with_reducible exact ih2 _ _ _ _ _ _ _ _ _ _)
      | (with_reducible exact ih3 _ _ _ _ _ _ _ _ _)
      | (with_reducible exact ih4 _ _ _ _ _ _ _ _ _ _)
      | (with_reducible exact LeO.refl _)
      | (with_reducible exact LeO.none _)
      | (with_reducible refine LeO.ite ?_ ?_)
      | (with_reducible refine LeO.bind ?_ (fun _ => ?_))
      | exact ih0 _ _ _ _ _ _ _ _
      | exact ih1 _ _ _ _ _ _ _ _ _
      | exact ih2 _ _ _ _ _ _ _ _ _ _
      | exact ih3 _ _ _ _ _ _ _ _ _
      | exact ih4 _ _ _ _ _ _ _ _ _ _
      | exact LeO.none _
      | refine LeO.ite ?_ ?_
      | refine LeO.bind ?_ (fun _ => ?_)
    · intro y0 y1 y2 y3 y4 y5 y6 y7 y8 y9
      unfold bits_Div64.j1
      repeat' first
      | (with_reducible exact ih0 _ _ _ _ _ _ _ _)
      | (with_reducible exact ih1 _ _ _ _ _ _ _ _ _)
      | (with_reducible exact ih2 _ _ _ _ _ _ _ _ _ _)
      | (with_reducible exact ih3 _ _ _ _ _ _ _ _ _)
      | (with_reducible exact ih4 _ _ _ _ _ _ _ _ _ _)
      | (with_reducible exact LeO.refl _)
      | (with_reducible exact LeO.none _)
      | (with_reducible refine LeO.ite ?_ ?_)
      | (with_reducible refine LeO.bind ?_ (fun _ => ?_))
      | exact ih0 _ _ _ _ _ _ _ _
      | exact ih1 _ _ _ _ _ _ _ _ _
      | exact ih2 _ _ _ _ _ _ _ _ _ _
      | exact ih3 _ _ _ _ _ _ _ _ _
      | exact ih4 _ _ _ _ _ _ _ _ _ _
      | exact LeO.none _
      | refine LeO.ite ?_ ?_
      | refine LeO.bind ?_ (fun _ => ?_)
theorem bits_Div64.mono : ∀ a0 a1 a2 k, LeO (bits_Div64.f k a0 a1 a2) (bits_Div64.f (k + 1) a0 a1 a2) := by
  intro a0 a1 a2 k
  obtain ⟨ih0, ih1, ih2, ih3, ih4⟩ := bits_Div64.mono_l k
  unfold bits_Div64.f
  repeat' first
      | (with_reducible exact ih0 _ _ _ _ _ _ _ _)
      | (with_reducible exact ih1 _ _ _ _ _ _ _ _ _)
      | (with_reducible exact ih2 _ _ _ _ _ _ _ _ _ _)
      | (with_reducible exact ih3 _ _ _ _ _ _ _ _ _)
      | (with_reducible exact ih4 _ _ _ _ _ _ _ _ _ _)
      | (with_reducible exact LeO.refl _)
      | (with_reducible exact LeO.none _)
      | (with_reducible refine LeO.ite ?_ ?_)
      | (with_reducible refine LeO.bind ?_ (fun _ => ?_))
      | exact ih0 _ _ _ _ _ _ _ _
      | exact ih1 _ _ _ _ _ _ _ _ _
      | exact ih2 _ _ _ _ _ _ _ _ _ _
      | exact ih3 _ _ _ _ _ _ _ _ _
      | exact ih4 _ _ _ _ _ _ _ _ _ _
      | exact LeO.none _
      | refine LeO.ite ?_ ?_
      | refine LeO.bind ?_ (fun _ => ?_)

/-! ### wide_Div: function 23 -/
def wide_Div.j0 : Nat → Int → Bool → Int → Int → Option (Int × Int × Int × Int)
  | 0, _, _, _, _ => none
  | k + 1, x1, x7, x111000, x111001 => (bits_Div64.f k 0 (IntKind.u64.wrap (x111000)) (IntKind.u64.wrap (x1))).bind fun bt114 => ((bits_Div64.f k bt114.2 x111001 (IntKind.u64.wrap (x1))).bind fun bt116 => (if x7 = true then ((wide_Sub.f (-1) 18446744073709551615 (wrap64 (bt114.1)) bt116.1).bind fun bt118 => (some (bt118.1, bt118.2, wrap64 ((wrap64 (x1 - 1)) - (wrap64 (bt116.2))), 0))) else (some (wrap64 (bt114.1), bt116.1, wrap64 (bt116.2), 0))))
def wide_Div.f (k : Nat) (a0_0 : Int) (a0_1 : Int) (a1 : Int) : Option (Int × Int × Int × Int) := if a1 < 1 then (some (0, 0, 0, 2)) else (if a0_0 < 0 then ((wide_Sub.f (-1) 18446744073709551615 a0_0 a0_1).bind fun bt112 => (wide_Div.j0 k a1 true bt112.1 bt112.2)) else (wide_Div.j0 k a1 false a0_0 a0_1))
theorem wide_Div.mono_l : ∀ k, (∀ y0 y1 y2 y3, LeO (wide_Div.j0 k y0 y1 y2 y3) (wide_Div.j0 (k + 1) y0 y1 y2 y3))
  | 0 => fun _ _ _ _ r h => by simp [wide_Div.j0] at h
  | k + 1 => by
    have ih0 := wide_Div.mono_l k
    · intro y0 y1 y2 y3
      unfold wide_Div.j0
      repeat' first
      | (with_reducible exact ih0 _ _ _ _)
      | (with_reducible exact bits_Div64.mono _ _ _ _)
      | (with_reducible exact LeO.refl _)
      | (with_reducible exact LeO.none _)
      | (with_reducible refine LeO.ite ?_ ?_)
      | (with_reducible refine LeO.bind ?_ (fun _ => ?_))
      | exact ih0 _ _ _ _
      | exact bits_Div64.mono _ _ _ _
      | exact LeO.none _
      | refine LeO.ite ?_ ?_
      | refine LeO.bind ?_ (fun _ => ?_)
theorem wide_Div.mono : ∀ a0 a1 a2 k, LeO (wide_Div.f k a0 a1 a2) (wide_Div.f (k + 1) a0 a1 a2) := by
  intro a0 a1 a2 k
  have ih0 := wide_Div.mono_l k
  unfold wide_Div.f
  repeat' first
      | (with_reducible exact ih0 _ _ _ _)
      | (with_reducible exact bits_Div64.mono _ _ _ _)
      | (with_reducible exact LeO.refl _)
      | (with_reducible exact LeO.none _)
      | (with_reducible refine LeO.ite ?_ ?_)
      | (with_reducible refine LeO.bind ?_ (fun _ => ?_))
      | exact ih0 _ _ _ _
      | exact bits_Div64.mono _ _ _ _
      | exact LeO.none _
      | refine LeO.ite ?_ ?_
      | refine LeO.bind ?_ (fun _ => ?_)

/-! ### wide_Root: function 26 -/
def wide_Root.l0 : Nat → Int → Int → Int → Int → Option (Int × Int)
  | 0, _, _, _, _ => none
  | k + 1, x4, x12, x121000, x121001 => if x12 < 64 then (if 0 ≤ (wrap64 (63 - x12)) then ((bits_Mul64.f (Go.bits .or .u64 x4 (shl .u64 1 (wrap64 (63 - x12)))) (Go.bits .or .u64 x4 (shl .u64 1 (wrap64 (63 - x12))))).bind fun bt121 => (if bt121.1 < (IntKind.u64.wrap (x121000)) then (wide_Root.l0 k (Go.bits .or .u64 x4 (shl .u64 1 (wrap64 (63 - x12)))) (wrap64 (x12 + 1)) x121000 x121001) else (if bt121.1 = (IntKind.u64.wrap (x121000)) then (if bt121.2 ≤ x121001 then (wide_Root.l0 k (Go.bits .or .u64 x4 (shl .u64 1 (wrap64 (63 - x12)))) (wrap64 (x12 + 1)) x121000 x121001) else (wide_Root.l0 k x4 (wrap64 (x12 + 1)) x121000 x121001)) else (wide_Root.l0 k x4 (wrap64 (x12 + 1)) x121000 x121001)))) else (none)) else (some (x4, 0))
def wide_Root.f (k : Nat) (a0_0 : Int) (a0_1 : Int) : Option (Int × Int) := if a0_0 < 0 then (some (0, 2)) else (wide_Root.l0 k 0 0 a0_0 a0_1)
theorem wide_Root.mono_l : ∀ k, (∀ y0 y1 y2 y3, LeO (wide_Root.l0 k y0 y1 y2 y3) (wide_Root.l0 (k + 1) y0 y1 y2 y3))
  | 0 => fun _ _ _ _ r h => by simp [wide_Root.l0] at h
  | k + 1 => by
    have ih0 := wide_Root.mono_l k
    · intro y0 y1 y2 y3
      unfold wide_Root.l0
      repeat' first
      | (with_reducible exact ih0 _ _ _ _)
      | (with_reducible exact LeO.refl _)
      | (with_reducible exact LeO.none _)
      | (with_reducible refine LeO.ite ?_ ?_)
      | (with_reducible refine LeO.bind ?_ (fun _ => ?_))
      | exact ih0 _ _ _ _
      | exact LeO.none _
      | refine LeO.ite ?_ ?_
      | refine LeO.bind ?_ (fun _ => ?_)
theorem wide_Root.mono : ∀ a0 a1 k, LeO (wide_Root.f k a0 a1) (wide_Root.f (k + 1) a0 a1) := by
  intro a0 a1 k
  have ih0 := wide_Root.mono_l k
  unfold wide_Root.f
  repeat' first
      | (with_reducible exact ih0 _ _ _ _)
      | (with_reducible exact LeO.refl _)
      | (with_reducible exact LeO.none _)
      | (with_reducible refine LeO.ite ?_ ?_)
      | (with_reducible refine LeO.bind ?_ (fun _ => ?_))
      | exact ih0 _ _ _ _
      | exact LeO.none _
      | refine LeO.ite ?_ ?_
      | refine LeO.bind ?_ (fun _ => ?_)

/-! ### calamuslaw01_alive: function 15 -/
def calamuslaw01_alive.f (k : Nat)  : Option (Bool) := (wide_Of.f (-7)).bind fun bt123 => ((wide_Div.f k bt123.1 bt123.2 2).bind fun bt125 => ((wide_Of.f 99).bind fun bt130 => ((wide_Root.f k bt130.1 bt130.2).bind fun bt132 => ((wide_Mul.f 1099511627776 1099511627776).bind fun bt134 => ((wide_Small.f bt134.1 bt134.2).bind fun bt136 => ((wide_Mul.f (-1099511627776) 1099511627776).bind fun bt138 => (if (bt138.1 == (-65536) && (bt138.2 == 0)) = true then ((wide_Of.f (-4)).bind fun bt140 => (if (bt125.1 == bt140.1 && (bt125.2.1 == bt140.2)) = true then (if bt125.2.2.1 = 1 then (if bt125.2.2.2 = 0 then (if bt132.1 = 9 then (if bt132.2 = 0 then (some (!bt136.2)) else (none)) else (none)) else (none)) else (none)) else (none))) else (none))))))))
theorem calamuslaw01_alive.mono : ∀ k, LeO (calamuslaw01_alive.f k ) (calamuslaw01_alive.f (k + 1) ) := by
  intro  k
  unfold calamuslaw01_alive.f
  repeat' first
      | (with_reducible exact wide_Div.mono _ _ _ _)
      | (with_reducible exact wide_Root.mono _ _ _)
      | (with_reducible exact LeO.refl _)
      | (with_reducible exact LeO.none _)
      | (with_reducible refine LeO.ite ?_ ?_)
      | (with_reducible refine LeO.bind ?_ (fun _ => ?_))
      | exact wide_Div.mono _ _ _ _
      | exact wide_Root.mono _ _ _
      | exact LeO.none _
      | refine LeO.ite ?_ ?_
      | refine LeO.bind ?_ (fun _ => ?_)

/-! ### calamuslaw01_Two_own: function 17 -/
def calamuslaw01_Two_own.f (a0_0 : Int) (a0_1 : Int) : Option (Int × Int) := some (a0_0, a0_1)

/-! ### calamusref01_Of: function 27 -/
def calamusref01_Of.f (a0 : Int) (a1 : Int) : Option (Int × Int × Int × Int × Int × Int × Int × Int) := some ((Int.tmod a1 65536) % 4294967296, (Int.tmod (IntKind.u64.wrap (Int.tdiv a1 65536)) 65536) % 4294967296, (Int.tmod (IntKind.u64.wrap (Int.tdiv (IntKind.u64.wrap (Int.tdiv a1 65536)) 65536)) 65536) % 4294967296, (Int.tmod (IntKind.u64.wrap (Int.tdiv (IntKind.u64.wrap (Int.tdiv (IntKind.u64.wrap (Int.tdiv a1 65536)) 65536)) 65536)) 65536) % 4294967296, (Int.tmod (IntKind.u64.wrap (a0)) 65536) % 4294967296, (Int.tmod (IntKind.u64.wrap (Int.tdiv (IntKind.u64.wrap (a0)) 65536)) 65536) % 4294967296, (Int.tmod (IntKind.u64.wrap (Int.tdiv (IntKind.u64.wrap (Int.tdiv (IntKind.u64.wrap (a0)) 65536)) 65536)) 65536) % 4294967296, (Int.tmod (IntKind.u64.wrap (Int.tdiv (IntKind.u64.wrap (Int.tdiv (IntKind.u64.wrap (Int.tdiv (IntKind.u64.wrap (a0)) 65536)) 65536)) 65536)) 65536) % 4294967296)

/-! ### calamuslaw01_is: function 18 -/
def calamuslaw01_is.f (a0_0 : Int) (a0_1 : Int) (a1_0 : Int) (a1_1 : Int) (a1_2 : Int) (a1_3 : Int) (a1_4 : Int) (a1_5 : Int) (a1_6 : Int) (a1_7 : Int) : Option (Bool) := (calamusref01_Of.f a0_0 a0_1).bind fun bt148 => (if bt148.1 = a1_0 then (if bt148.2.1 = a1_1 then (if bt148.2.2.1 = a1_2 then (if bt148.2.2.2.1 = a1_3 then (if bt148.2.2.2.2.1 = a1_4 then (if bt148.2.2.2.2.2.1 = a1_5 then (if bt148.2.2.2.2.2.2.1 = a1_6 then (if bt148.2.2.2.2.2.2.2 = a1_7 then (some true) else (some false)) else (some false)) else (some false)) else (some false)) else (some false)) else (some false)) else (some false)) else (some false))

/-! ### calamuslaw01_Two_ref: function 25 -/
def calamuslaw01_Two_ref.f (a0_0 : Int) (a0_1 : Int) : Option (Int × Int × Int × Int × Int × Int × Int × Int) := (calamusref01_Of.f a0_0 a0_1).bind fun bt158 => (some (bt158.1, bt158.2.1, bt158.2.2.1, bt158.2.2.2.1, bt158.2.2.2.2.1, bt158.2.2.2.2.2.1, bt158.2.2.2.2.2.2.1, bt158.2.2.2.2.2.2.2))

/-! ### wide_Cmp: function 29 -/
def wide_Cmp.j0 : Nat → Bool → Int → Int → Int → Int → Option (Int)
  | 0, _, _, _, _, _ => none
  | k + 1, x5, x167000, x167001, x168000, x168001 => if x5 = true then (some 1) else (if (x167000 == x168000 && (x167001 == x168001)) = true then (some 0) else (some (-1)))
def wide_Cmp.f (k : Nat) (a0_0 : Int) (a0_1 : Int) (a1_0 : Int) (a1_1 : Int) : Option (Int) := if a0_0 > a1_0 then (wide_Cmp.j0 k true a0_0 a0_1 a1_0 a1_1) else (if a0_0 = a1_0 then (wide_Cmp.j0 k (decide (a0_1 > a1_1)) a0_0 a0_1 a1_0 a1_1) else (wide_Cmp.j0 k false a0_0 a0_1 a1_0 a1_1))
theorem wide_Cmp.mono_l : ∀ k, (∀ y0 y1 y2 y3 y4, LeO (wide_Cmp.j0 k y0 y1 y2 y3 y4) (wide_Cmp.j0 (k + 1) y0 y1 y2 y3 y4))
  | 0 => fun _ _ _ _ _ r h => by simp [wide_Cmp.j0] at h
  | k + 1 => by
    have ih0 := wide_Cmp.mono_l k
    · intro y0 y1 y2 y3 y4
      unfold wide_Cmp.j0
      repeat' first
      | (with_reducible exact ih0 _ _ _ _ _)
      | (with_reducible exact LeO.refl _)
      | (with_reducible exact LeO.none _)
      | (with_reducible refine LeO.ite ?_ ?_)
      | (with_reducible refine LeO.bind ?_ (fun _ => ?_))
      | exact ih0 _ _ _ _ _
      | exact LeO.none _
      | refine LeO.ite ?_ ?_
      | refine LeO.bind ?_ (fun _ => ?_)
theorem wide_Cmp.mono : ∀ a0 a1 a2 a3 k, LeO (wide_Cmp.f k a0 a1 a2 a3) (wide_Cmp.f (k + 1) a0 a1 a2 a3) := by
  intro a0 a1 a2 a3 k
  have ih0 := wide_Cmp.mono_l k
  unfold wide_Cmp.f
  repeat' first
      | (with_reducible exact ih0 _ _ _ _ _)
      | (with_reducible exact LeO.refl _)
      | (with_reducible exact LeO.none _)
      | (with_reducible refine LeO.ite ?_ ?_)
      | (with_reducible refine LeO.bind ?_ (fun _ => ?_))
      | exact ih0 _ _ _ _ _
      | exact LeO.none _
      | refine LeO.ite ?_ ?_
      | refine LeO.bind ?_ (fun _ => ?_)

/-! ### wide_Sign: function 30 -/
def wide_Sign.f (k : Nat) (a0_0 : Int) (a0_1 : Int) : Option (Int) := (wide_Cmp.f k a0_0 a0_1 0 0).bind fun t169 => (some t169)
theorem wide_Sign.mono : ∀ a0 a1 k, LeO (wide_Sign.f k a0 a1) (wide_Sign.f (k + 1) a0 a1) := by
  intro a0 a1 k
  unfold wide_Sign.f
  repeat' first
      | (with_reducible exact wide_Cmp.mono _ _ _ _ _)
      | (with_reducible exact LeO.refl _)
      | (with_reducible exact LeO.none _)
      | (with_reducible refine LeO.ite ?_ ?_)
      | (with_reducible refine LeO.bind ?_ (fun _ => ?_))
      | exact wide_Cmp.mono _ _ _ _ _
      | exact LeO.none _
      | refine LeO.ite ?_ ?_
      | refine LeO.bind ?_ (fun _ => ?_)

-- NOT PRINTED: function 53 (bits_Add64)

/-! ### wide_Add: function 32 (by hand) -/
-- EXT calamus/wide.Add rounds=0 making=1
def wide_Add.f (a0_0 : Int) (a0_1 : Int) (a1_0 : Int) (a1_1 : Int) : Option (Int × Int) :=
  if 0 ≤ a0_1 ∧ a0_1 < 18446744073709551616 ∧ 0 ≤ a1_1 ∧ a1_1 < 18446744073709551616 then
    some (wrap64 ((a0_0 % 18446744073709551616 + a1_0 % 18446744073709551616 + (a0_1 + a1_1) / 18446744073709551616) % 18446744073709551616), (a0_1 + a1_1) % 18446744073709551616) else none

/-! ### wide_Neg: function 33 -/
def wide_Neg.f (a0_0 : Int) (a0_1 : Int) : Option (Int × Int) := (wide_Sub.f 0 0 a0_0 a0_1).bind fun bt172 => (some (bt172.1, bt172.2))

/-! ### calamusref01_Add: function 34 (by hand) -/
-- EXT calamus/calamusref01.Add rounds=0 making=1
def calamusref01_Add.st (a b : List Int) : Nat → List Int × Int
  | 0 => ([0, 0, 0, 0, 0, 0, 0, 0], 0)
  | i + 1 => ((calamusref01_Add.st a b i).1.set i ((a.getD i 0 + b.getD i 0 + (calamusref01_Add.st a b i).2) % 65536), (a.getD i 0 + b.getD i 0 + (calamusref01_Add.st a b i).2) % 4294967296 / 65536)
def calamusref01_Add.tup : List Int → Option (Int × Int × Int × Int × Int × Int × Int × Int)
  | [x0, x1, x2, x3, x4, x5, x6, x7] => some (x0, x1, x2, x3, x4, x5, x6, x7)
  | _ => none
def calamusref01_Add.f (a0_0 a0_1 a0_2 a0_3 a0_4 a0_5 a0_6 a0_7 a1_0 a1_1 a1_2 a1_3 a1_4 a1_5 a1_6 a1_7 : Int) : Option (Int × Int × Int × Int × Int × Int × Int × Int) :=
  calamusref01_Add.tup (calamusref01_Add.st [a0_0, a0_1, a0_2, a0_3, a0_4, a0_5, a0_6, a0_7] [a1_0, a1_1, a1_2, a1_3, a1_4, a1_5, a1_6, a1_7] 8).1

/-! ### calamusref01_Neg: function 36 -/
def calamusref01_Neg.f (a0_0 : Int) (a0_1 : Int) (a0_2 : Int) (a0_3 : Int) (a0_4 : Int) (a0_5 : Int) (a0_6 : Int) (a0_7 : Int) : Option (Int × Int × Int × Int × Int × Int × Int × Int) := (calamusref01_Add.f ((65535 - a0_0) % 4294967296) ((65535 - a0_1) % 4294967296) ((65535 - a0_2) % 4294967296) ((65535 - a0_3) % 4294967296) ((65535 - a0_4) % 4294967296) ((65535 - a0_5) % 4294967296) ((65535 - a0_6) % 4294967296) ((65535 - a0_7) % 4294967296) 1 0 0 0 0 0 0 0).bind fun bt177 => (some (bt177.1, bt177.2.1, bt177.2.2.1, bt177.2.2.2.1, bt177.2.2.2.2.1, bt177.2.2.2.2.2.1, bt177.2.2.2.2.2.2.1, bt177.2.2.2.2.2.2.2))

/-! ### calamusref01_Sub: function 35 -/
def calamusref01_Sub.f (a0_0 : Int) (a0_1 : Int) (a0_2 : Int) (a0_3 : Int) (a0_4 : Int) (a0_5 : Int) (a0_6 : Int) (a0_7 : Int) (a1_0 : Int) (a1_1 : Int) (a1_2 : Int) (a1_3 : Int) (a1_4 : Int) (a1_5 : Int) (a1_6 : Int) (a1_7 : Int) : Option (Int × Int × Int × Int × Int × Int × Int × Int) := (calamusref01_Neg.f a1_0 a1_1 a1_2 a1_3 a1_4 a1_5 a1_6 a1_7).bind fun bt188 => ((calamusref01_Add.f a0_0 a0_1 a0_2 a0_3 a0_4 a0_5 a0_6 a0_7 bt188.1 bt188.2.1 bt188.2.2.1 bt188.2.2.2.1 bt188.2.2.2.2.1 bt188.2.2.2.2.2.1 bt188.2.2.2.2.2.2.1 bt188.2.2.2.2.2.2.2).bind fun bt196 => (some (bt196.1, bt196.2.1, bt196.2.2.1, bt196.2.2.2.1, bt196.2.2.2.2.1, bt196.2.2.2.2.2.1, bt196.2.2.2.2.2.2.1, bt196.2.2.2.2.2.2.2)))

/-! ### calamusref01_Cmp: function 37 (by hand) -/
-- EXT calamus/calamusref01.Cmp rounds=0 making=1
def calamusref01_Cmp.go (a b : List Int) : Nat → Int
  | 0 => 0
  | i + 1 => if a.getD i 0 > b.getD i 0 then 1 else if a.getD i 0 < b.getD i 0 then -1 else calamusref01_Cmp.go a b i
def calamusref01_Cmp.all (a b : List Int) : Int :=
  if (decide (a.getD 7 0 ≥ 32768)) = (decide (b.getD 7 0 ≥ 32768)) then calamusref01_Cmp.go a b 8 else if a.getD 7 0 ≥ 32768 then -1 else 1
def calamusref01_Cmp.f (a0_0 a0_1 a0_2 a0_3 a0_4 a0_5 a0_6 a0_7 a1_0 a1_1 a1_2 a1_3 a1_4 a1_5 a1_6 a1_7 : Int) : Option (Int) :=
  some (calamusref01_Cmp.all [a0_0, a0_1, a0_2, a0_3, a0_4, a0_5, a0_6, a0_7] [a1_0, a1_1, a1_2, a1_3, a1_4, a1_5, a1_6, a1_7])

/-! ### calamusref01_Sign: function 38 -/
def calamusref01_Sign.f (a0_0 : Int) (a0_1 : Int) (a0_2 : Int) (a0_3 : Int) (a0_4 : Int) (a0_5 : Int) (a0_6 : Int) (a0_7 : Int) : Option (Int) := if a0_7 ≥ 32768 then (some (-1)) else (if a0_0 = 0 then (if a0_1 = 0 then (if a0_2 = 0 then (if a0_3 = 0 then (if a0_4 = 0 then (if a0_5 = 0 then (if a0_6 = 0 then (if a0_7 = 0 then (some 0) else (some 1)) else (some 1)) else (some 1)) else (some 1)) else (some 1)) else (some 1)) else (some 1)) else (some 1))

/-! ### calamuslaw01_WideAdds: function 10 -/
def calamuslaw01_WideAdds.f (k : Nat) (a0_0 : Int) (a0_1 : Int) (a1_0 : Int) (a1_1 : Int) : Option (Bool) := (calamuslaw01_alive.f k).bind fun t207 => (if t207 = true then ((calamuslaw01_Two_own.f a0_0 a0_1).bind fun bt208 => ((calamuslaw01_Two_own.f a1_0 a1_1).bind fun bt210 => ((wide_Add.f bt208.1 bt208.2 bt210.1 bt210.2).bind fun bt214 => ((calamuslaw01_Two_ref.f a0_0 a0_1).bind fun bt216 => ((calamuslaw01_Two_ref.f a1_0 a1_1).bind fun bt224 => ((calamusref01_Add.f bt216.1 bt216.2.1 bt216.2.2.1 bt216.2.2.2.1 bt216.2.2.2.2.1 bt216.2.2.2.2.2.1 bt216.2.2.2.2.2.2.1 bt216.2.2.2.2.2.2.2 bt224.1 bt224.2.1 bt224.2.2.1 bt224.2.2.2.1 bt224.2.2.2.2.1 bt224.2.2.2.2.2.1 bt224.2.2.2.2.2.2.1 bt224.2.2.2.2.2.2.2).bind fun bt232 => ((calamuslaw01_is.f bt214.1 bt214.2 bt232.1 bt232.2.1 bt232.2.2.1 bt232.2.2.2.1 bt232.2.2.2.2.1 bt232.2.2.2.2.2.1 bt232.2.2.2.2.2.2.1 bt232.2.2.2.2.2.2.2).bind fun t240 => (if t240 = true then ((wide_Sub.f bt208.1 bt208.2 bt210.1 bt210.2).bind fun bt241 => ((calamuslaw01_Two_ref.f a0_0 a0_1).bind fun bt243 => ((calamuslaw01_Two_ref.f a1_0 a1_1).bind fun bt251 => ((calamusref01_Sub.f bt243.1 bt243.2.1 bt243.2.2.1 bt243.2.2.2.1 bt243.2.2.2.2.1 bt243.2.2.2.2.2.1 bt243.2.2.2.2.2.2.1 bt243.2.2.2.2.2.2.2 bt251.1 bt251.2.1 bt251.2.2.1 bt251.2.2.2.1 bt251.2.2.2.2.1 bt251.2.2.2.2.2.1 bt251.2.2.2.2.2.2.1 bt251.2.2.2.2.2.2.2).bind fun bt259 => ((calamuslaw01_is.f bt241.1 bt241.2 bt259.1 bt259.2.1 bt259.2.2.1 bt259.2.2.2.1 bt259.2.2.2.2.1 bt259.2.2.2.2.2.1 bt259.2.2.2.2.2.2.1 bt259.2.2.2.2.2.2.2).bind fun t267 => (if t267 = true then ((wide_Neg.f bt208.1 bt208.2).bind fun bt268 => ((calamuslaw01_Two_ref.f a0_0 a0_1).bind fun bt270 => ((calamusref01_Neg.f bt270.1 bt270.2.1 bt270.2.2.1 bt270.2.2.2.1 bt270.2.2.2.2.1 bt270.2.2.2.2.2.1 bt270.2.2.2.2.2.2.1 bt270.2.2.2.2.2.2.2).bind fun bt278 => ((calamuslaw01_is.f bt268.1 bt268.2 bt278.1 bt278.2.1 bt278.2.2.1 bt278.2.2.2.1 bt278.2.2.2.2.1 bt278.2.2.2.2.2.1 bt278.2.2.2.2.2.2.1 bt278.2.2.2.2.2.2.2).bind fun t286 => (if t286 = true then ((wide_Cmp.f k bt208.1 bt208.2 bt210.1 bt210.2).bind fun t287 => ((calamuslaw01_Two_ref.f a0_0 a0_1).bind fun bt288 => ((calamuslaw01_Two_ref.f a1_0 a1_1).bind fun bt296 => ((calamusref01_Cmp.f bt288.1 bt288.2.1 bt288.2.2.1 bt288.2.2.2.1 bt288.2.2.2.2.1 bt288.2.2.2.2.2.1 bt288.2.2.2.2.2.2.1 bt288.2.2.2.2.2.2.2 bt296.1 bt296.2.1 bt296.2.2.1 bt296.2.2.2.1 bt296.2.2.2.2.1 bt296.2.2.2.2.2.1 bt296.2.2.2.2.2.2.1 bt296.2.2.2.2.2.2.2).bind fun t304 => (if t287 = t304 then ((wide_Sign.f k bt208.1 bt208.2).bind fun t305 => ((calamuslaw01_Two_ref.f a0_0 a0_1).bind fun bt306 => ((calamusref01_Sign.f bt306.1 bt306.2.1 bt306.2.2.1 bt306.2.2.2.1 bt306.2.2.2.2.1 bt306.2.2.2.2.2.1 bt306.2.2.2.2.2.2.1 bt306.2.2.2.2.2.2.2).bind fun t314 => (some (t305 == t314))))) else (none)))))) else (none)))))) else (none))))))) else (none))))))))) else (none))
theorem calamuslaw01_WideAdds.mono : ∀ a0 a1 a2 a3 k, LeO (calamuslaw01_WideAdds.f k a0 a1 a2 a3) (calamuslaw01_WideAdds.f (k + 1) a0 a1 a2 a3) := by
  intro a0 a1 a2 a3 k
  unfold calamuslaw01_WideAdds.f
  repeat' first
      | (with_reducible exact calamuslaw01_alive.mono _)
      | (with_reducible exact wide_Cmp.mono _ _ _ _ _)
      | (with_reducible exact wide_Sign.mono _ _ _)
      | (with_reducible exact LeO.refl _)
      | (with_reducible exact LeO.none _)
      | (with_reducible refine LeO.ite ?_ ?_)
      | (with_reducible refine LeO.bind ?_ (fun _ => ?_))
      | exact calamuslaw01_alive.mono _
      | exact wide_Cmp.mono _ _ _ _ _
      | exact wide_Sign.mono _ _ _
      | exact LeO.none _
      | refine LeO.ite ?_ ?_
      | refine LeO.bind ?_ (fun _ => ?_)

/-! ### calamusref01_Small: function 20 -/
def calamusref01_Small.f (a0 : Int) : Option (Int × Int × Int × Int × Int × Int × Int × Int) := if a0 < 0 then ((calamusref01_Of.f (-1) (IntKind.u64.wrap (a0))).bind fun bt316 => (some (bt316.1, bt316.2.1, bt316.2.2.1, bt316.2.2.2.1, bt316.2.2.2.2.1, bt316.2.2.2.2.2.1, bt316.2.2.2.2.2.2.1, bt316.2.2.2.2.2.2.2))) else ((calamusref01_Of.f 0 (IntKind.u64.wrap (a0))).bind fun bt324 => (some (bt324.1, bt324.2.1, bt324.2.2.1, bt324.2.2.2.1, bt324.2.2.2.2.1, bt324.2.2.2.2.2.1, bt324.2.2.2.2.2.2.1, bt324.2.2.2.2.2.2.2)))

/-! ### calamusref01_Mul: function 22 (by hand) -/
-- EXT calamus/calamusref01.Mul rounds=0 making=1
def calamusref01_Mul.sum (a : Int) (b : List Int) (i j : Nat) (q : List Int × Int) : Int := a * b.getD j 0 + q.1.getD (i + j) 0 + q.2
def calamusref01_Mul.inn (a : Int) (b : List Int) (i : Nat) (st : List Int × Int) : Nat → List Int × Int
  | 0 => st
  | j + 1 => ((calamusref01_Mul.inn a b i st j).1.set (i + j) (calamusref01_Mul.sum a b i j (calamusref01_Mul.inn a b i st j) % 65536), calamusref01_Mul.sum a b i j (calamusref01_Mul.inn a b i st j) % 4294967296 / 65536)
def calamusref01_Mul.rows (a b : List Int) : Nat → List Int
  | 0 => [0, 0, 0, 0, 0, 0, 0, 0]
  | i + 1 => (calamusref01_Mul.inn (a.getD i 0) b i (calamusref01_Mul.rows a b i, 0) (8 - i)).1
def calamusref01_Mul.tup : List Int → Option (Int × Int × Int × Int × Int × Int × Int × Int)
  | [x0, x1, x2, x3, x4, x5, x6, x7] => some (x0, x1, x2, x3, x4, x5, x6, x7)
  | _ => none
def calamusref01_Mul.f (a0_0 a0_1 a0_2 a0_3 a0_4 a0_5 a0_6 a0_7 a1_0 a1_1 a1_2 a1_3 a1_4 a1_5 a1_6 a1_7 : Int) : Option (Int × Int × Int × Int × Int × Int × Int × Int) :=
  calamusref01_Mul.tup (calamusref01_Mul.rows [a0_0, a0_1, a0_2, a0_3, a0_4, a0_5, a0_6, a0_7] [a1_0, a1_1, a1_2, a1_3, a1_4, a1_5, a1_6, a1_7] 8)

/-! ### calamuslaw01_WideMuls: function 3 -/
mutual
def calamuslaw01_WideMuls.j0 : Nat → Int → Int → Int → Bool → Bool → Int → Int → Option (Bool)
  | 0, _, _, _, _, _, _, _ => none
  | k + 1, x0, x1, x7, x8, x9, x333000, x333001 => if (x8 != x9) = true then (calamuslaw01_WideMuls.j1 k x0 x1 true) else (if x8 = true then (if x7 = (wrap64 (x333001)) then (calamuslaw01_WideMuls.j1 k x0 x1 false) else (calamuslaw01_WideMuls.j1 k x0 x1 true)) else (calamuslaw01_WideMuls.j1 k x0 x1 (x7 != 0)))
def calamuslaw01_WideMuls.j1 : Nat → Int → Int → Bool → Option (Bool)
  | 0, _, _, _ => none
  | k + 1, x0, x1, x56 => if x56 = true then (none) else ((wide_Of.f x0).bind fun bt338 => ((calamusref01_Small.f x0).bind fun bt340 => ((calamuslaw01_is.f bt338.1 bt338.2 bt340.1 bt340.2.1 bt340.2.2.1 bt340.2.2.2.1 bt340.2.2.2.2.1 bt340.2.2.2.2.2.1 bt340.2.2.2.2.2.2.1 bt340.2.2.2.2.2.2.2).bind fun t348 => (if t348 = true then ((wide_Mul.f x0 x1).bind fun bt349 => ((calamusref01_Small.f x0).bind fun bt351 => ((calamusref01_Small.f x1).bind fun bt359 => ((calamusref01_Mul.f bt351.1 bt351.2.1 bt351.2.2.1 bt351.2.2.2.1 bt351.2.2.2.2.1 bt351.2.2.2.2.2.1 bt351.2.2.2.2.2.2.1 bt351.2.2.2.2.2.2.2 bt359.1 bt359.2.1 bt359.2.2.1 bt359.2.2.2.1 bt359.2.2.2.2.1 bt359.2.2.2.2.2.1 bt359.2.2.2.2.2.2.1 bt359.2.2.2.2.2.2.2).bind fun bt367 => ((calamuslaw01_is.f bt349.1 bt349.2 bt367.1 bt367.2.1 bt367.2.2.1 bt367.2.2.2.1 bt367.2.2.2.2.1 bt367.2.2.2.2.2.1 bt367.2.2.2.2.2.2.1 bt367.2.2.2.2.2.2.2).bind fun t375 => (some t375)))))) else (none)))))
end
def calamuslaw01_WideMuls.f (k : Nat) (a0 : Int) (a1 : Int) (a2_0 : Int) (a2_1 : Int) : Option (Bool) := (calamuslaw01_alive.f k).bind fun t333 => (if t333 = true then ((calamuslaw01_Two_own.f a2_0 a2_1).bind fun bt334 => ((wide_Small.f bt334.1 bt334.2).bind fun bt336 => (if a2_0 = 0 then (if a2_1 < 9223372036854775808 then (calamuslaw01_WideMuls.j0 k a0 a1 bt336.1 bt336.2 true a2_0 a2_1) else (if a2_0 = (-1) then (calamuslaw01_WideMuls.j0 k a0 a1 bt336.1 bt336.2 (decide (a2_1 ≥ 9223372036854775808)) a2_0 a2_1) else (calamuslaw01_WideMuls.j0 k a0 a1 bt336.1 bt336.2 false a2_0 a2_1))) else (if a2_0 = (-1) then (calamuslaw01_WideMuls.j0 k a0 a1 bt336.1 bt336.2 (decide (a2_1 ≥ 9223372036854775808)) a2_0 a2_1) else (calamuslaw01_WideMuls.j0 k a0 a1 bt336.1 bt336.2 false a2_0 a2_1))))) else (none))
theorem calamuslaw01_WideMuls.mono_l : ∀ k, (∀ y0 y1 y2 y3 y4 y5 y6, LeO (calamuslaw01_WideMuls.j0 k y0 y1 y2 y3 y4 y5 y6) (calamuslaw01_WideMuls.j0 (k + 1) y0 y1 y2 y3 y4 y5 y6)) ∧ (∀ y0 y1 y2, LeO (calamuslaw01_WideMuls.j1 k y0 y1 y2) (calamuslaw01_WideMuls.j1 (k + 1) y0 y1 y2))
  | 0 => ⟨fun _ _ _ _ _ _ _ r h => by simp [calamuslaw01_WideMuls.j0] at h, fun _ _ _ r h => by simp [calamuslaw01_WideMuls.j1] at h⟩
  | k + 1 => by
    obtain ⟨ih0, ih1⟩ := calamuslaw01_WideMuls.mono_l k
    refine ⟨?_, ?_⟩
    · intro y0 y1 y2 y3 y4 y5 y6
      unfold calamuslaw01_WideMuls.j0
      repeat' first
      | (with_reducible exact ih0 _ _ _ _ _ _ _)
      | (with_reducible exact ih1 _ _ _)
      | (with_reducible exact calamuslaw01_alive.mono _)
      | (with_reducible exact LeO.refl _)
      | (with_reducible exact LeO.none _)
      | (with_reducible refine LeO.ite ?_ ?_)
      | (with_reducible refine LeO.bind ?_ (fun _ => ?_))
      | exact ih0 _ _ _ _ _ _ _
      | exact ih1 _ _ _
      | exact calamuslaw01_alive.mono _
      | exact LeO.none _
      | refine LeO.ite ?_ ?_
      | refine LeO.bind ?_ (fun _ => ?_)
    · intro y0 y1 y2
      unfold calamuslaw01_WideMuls.j1
      repeat' first
      | (with_reducible exact ih0 _ _ _ _ _ _ _)
      | (with_reducible exact ih1 _ _ _)
      | (with_reducible exact calamuslaw01_alive.mono _)
      | (with_reducible exact LeO.refl _)
      | (with_reducible exact LeO.none _)
      | (with_reducible refine LeO.ite ?_ ?_)
      | (with_reducible refine LeO.bind ?_ (fun _ => ?_))
      | exact ih0 _ _ _ _ _ _ _
      | exact ih1 _ _ _
      | exact calamuslaw01_alive.mono _
      | exact LeO.none _
      | refine LeO.ite ?_ ?_
      | refine LeO.bind ?_ (fun _ => ?_)
theorem calamuslaw01_WideMuls.mono : ∀ a0 a1 a2 a3 k, LeO (calamuslaw01_WideMuls.f k a0 a1 a2 a3) (calamuslaw01_WideMuls.f (k + 1) a0 a1 a2 a3) := by
  intro a0 a1 a2 a3 k
  obtain ⟨ih0, ih1⟩ := calamuslaw01_WideMuls.mono_l k
  unfold calamuslaw01_WideMuls.f
  repeat' first
      | (with_reducible exact ih0 _ _ _ _ _ _ _)
      | (with_reducible exact ih1 _ _ _)
      | (with_reducible exact calamuslaw01_alive.mono _)
      | (with_reducible exact LeO.refl _)
      | (with_reducible exact LeO.none _)
      | (with_reducible refine LeO.ite ?_ ?_)
      | (with_reducible refine LeO.bind ?_ (fun _ => ?_))
      | exact ih0 _ _ _ _ _ _ _
      | exact ih1 _ _ _
      | exact calamuslaw01_alive.mono _
      | exact LeO.none _
      | refine LeO.ite ?_ ?_
      | refine LeO.bind ?_ (fun _ => ?_)

/-! ### calamusref01_bit: function 50 (by hand) -/
-- EXT calamus/calamusref01.bit rounds=0 making=1
def calamusref01_bit.sel (i : Int) (a0 a1 a2 a3 a4 a5 a6 a7 : Int) : Int := [a0, a1, a2, a3, a4, a5, a6, a7].getD (i / 16).toNat 0
def calamusref01_bit.f (a0_0 a0_1 a0_2 a0_3 a0_4 a0_5 a0_6 a0_7 : Int) (a1 : Int) : Option (Int) :=
  if 0 ≤ a1 ∧ a1 < 128 ∧ 0 ≤ calamusref01_bit.sel a1 a0_0 a0_1 a0_2 a0_3 a0_4 a0_5 a0_6 a0_7 ∧ calamusref01_bit.sel a1 a0_0 a0_1 a0_2 a0_3 a0_4 a0_5 a0_6 a0_7 < 4294967296 then
    some (calamusref01_bit.sel a1 a0_0 a0_1 a0_2 a0_3 a0_4 a0_5 a0_6 a0_7 / 2 ^ (a1 % 16).toNat % 2) else none

/-! ### calamusref01_with: function 51 (by hand) -/
-- EXT calamus/calamusref01.with rounds=0 making=1
def calamusref01_with.up (j : Int) (a1 x : Int) : Int := if a1 / 16 = j then (x + 2 ^ (a1 % 16).toNat) % 4294967296 else x
def calamusref01_with.f (a0_0 a0_1 a0_2 a0_3 a0_4 a0_5 a0_6 a0_7 : Int) (a1 : Int) : Option (Int × Int × Int × Int × Int × Int × Int × Int) :=
  if 0 ≤ a1 ∧ a1 < 128 then
    some (calamusref01_with.up 0 a1 a0_0, calamusref01_with.up 1 a1 a0_1, calamusref01_with.up 2 a1 a0_2, calamusref01_with.up 3 a1 a0_3, calamusref01_with.up 4 a1 a0_4, calamusref01_with.up 5 a1 a0_5, calamusref01_with.up 6 a1 a0_6, calamusref01_with.up 7 a1 a0_7) else none

/-! ### calamusref01_Div: function 24 -/
mutual
def calamusref01_Div.l0 : Nat → Int → Int → Int → Int → Int → Int → Int → Int → Int → Int → Int → Int → Int → Int → Int → Int → Int → Int → Int → Option (Int × Int × Int × Int × Int × Int × Int × Int × Int)
  | 0, _, _, _, _, _, _, _, _, _, _, _, _, _, _, _, _, _, _, _ => none
  | k + 1, x1, x9, x10, x377000, x377001, x377002, x377003, x377004, x377005, x377006, x377007, x422000, x422001, x422002, x422003, x422004, x422005, x422006, x422007 => if x10 ≥ 0 then ((calamusref01_bit.f x377000 x377001 x377002 x377003 x377004 x377005 x377006 x377007 x10).bind fun t422 => (if (IntKind.u64.wrap ((IntKind.u64.wrap (2 * x9)) + (IntKind.u64.wrap (t422)))) ≥ (IntKind.u64.wrap (x1)) then ((calamusref01_with.f x422000 x422001 x422002 x422003 x422004 x422005 x422006 x422007 x10).bind fun bt423 => (calamusref01_Div.l0 k x1 (IntKind.u64.wrap ((IntKind.u64.wrap ((IntKind.u64.wrap (2 * x9)) + (IntKind.u64.wrap (t422)))) - (IntKind.u64.wrap (x1)))) (wrap64 (x10 - 1)) x377000 x377001 x377002 x377003 x377004 x377005 x377006 x377007 bt423.1 bt423.2.1 bt423.2.2.1 bt423.2.2.2.1 bt423.2.2.2.2.1 bt423.2.2.2.2.2.1 bt423.2.2.2.2.2.2.1 bt423.2.2.2.2.2.2.2)) else (calamusref01_Div.l0 k x1 (IntKind.u64.wrap ((IntKind.u64.wrap (2 * x9)) + (IntKind.u64.wrap (t422)))) (wrap64 (x10 - 1)) x377000 x377001 x377002 x377003 x377004 x377005 x377006 x377007 x422000 x422001 x422002 x422003 x422004 x422005 x422006 x422007))) else (some (x422000, x422001, x422002, x422003, x422004, x422005, x422006, x422007, wrap64 (x9)))
def calamusref01_Div.f : Nat → Int → Int → Int → Int → Int → Int → Int → Int → Int → Option (Int × Int × Int × Int × Int × Int × Int × Int × Int)
  | 0, _, _, _, _, _, _, _, _, _ => none
  | k + 1, a0_0, a0_1, a0_2, a0_3, a0_4, a0_5, a0_6, a0_7, a1 => (calamusref01_Sign.f a0_0 a0_1 a0_2 a0_3 a0_4 a0_5 a0_6 a0_7).bind fun t378 => (if t378 < 0 then ((calamusref01_Neg.f a0_0 a0_1 a0_2 a0_3 a0_4 a0_5 a0_6 a0_7).bind fun bt379 => ((calamusref01_Sub.f bt379.1 bt379.2.1 bt379.2.2.1 bt379.2.2.2.1 bt379.2.2.2.2.1 bt379.2.2.2.2.2.1 bt379.2.2.2.2.2.2.1 bt379.2.2.2.2.2.2.2 1 0 0 0 0 0 0 0).bind fun bt387 => ((calamusref01_Div.f k bt387.1 bt387.2.1 bt387.2.2.1 bt387.2.2.2.1 bt387.2.2.2.2.1 bt387.2.2.2.2.2.1 bt387.2.2.2.2.2.2.1 bt387.2.2.2.2.2.2.2 a1).bind fun bt395 => ((calamusref01_Neg.f bt395.1 bt395.2.1 bt395.2.2.1 bt395.2.2.2.1 bt395.2.2.2.2.1 bt395.2.2.2.2.2.1 bt395.2.2.2.2.2.2.1 bt395.2.2.2.2.2.2.2.1).bind fun bt405 => ((calamusref01_Sub.f bt405.1 bt405.2.1 bt405.2.2.1 bt405.2.2.2.1 bt405.2.2.2.2.1 bt405.2.2.2.2.2.1 bt405.2.2.2.2.2.2.1 bt405.2.2.2.2.2.2.2 1 0 0 0 0 0 0 0).bind fun bt413 => (some (bt413.1, bt413.2.1, bt413.2.2.1, bt413.2.2.2.1, bt413.2.2.2.2.1, bt413.2.2.2.2.2.1, bt413.2.2.2.2.2.2.1, bt413.2.2.2.2.2.2.2, wrap64 ((wrap64 (a1 - 1)) - bt395.2.2.2.2.2.2.2.2)))))))) else (calamusref01_Div.l0 k a1 0 127 a0_0 a0_1 a0_2 a0_3 a0_4 a0_5 a0_6 a0_7 0 0 0 0 0 0 0 0))
end
theorem calamusref01_Div.mono_l : ∀ k, (∀ y0 y1 y2 y3 y4 y5 y6 y7 y8, LeO (calamusref01_Div.f k y0 y1 y2 y3 y4 y5 y6 y7 y8) (calamusref01_Div.f (k + 1) y0 y1 y2 y3 y4 y5 y6 y7 y8)) ∧ (∀ y0 y1 y2 y3 y4 y5 y6 y7 y8 y9 y10 y11 y12 y13 y14 y15 y16 y17 y18, LeO (calamusref01_Div.l0 k y0 y1 y2 y3 y4 y5 y6 y7 y8 y9 y10 y11 y12 y13 y14 y15 y16 y17 y18) (calamusref01_Div.l0 (k + 1) y0 y1 y2 y3 y4 y5 y6 y7 y8 y9 y10 y11 y12 y13 y14 y15 y16 y17 y18))
  | 0 => ⟨fun _ _ _ _ _ _ _ _ _ r h => by simp [calamusref01_Div.f] at h, fun _ _ _ _ _ _ _ _ _ _ _ _ _ _ _ _ _ _ _ r h => by simp [calamusref01_Div.l0] at h⟩
  | k + 1 => by
    obtain ⟨ih0, ih1⟩ := calamusref01_Div.mono_l k
    refine ⟨?_, ?_⟩
    · intro y0 y1 y2 y3 y4 y5 y6 y7 y8
      unfold calamusref01_Div.f
      repeat' first
      | (with_reducible exact ih0 _ _ _ _ _ _ _ _ _)
      | (with_reducible exact ih1 _ _ _ _ _ _ _ _ _ _ _ _ _ _ _ _ _ _ _)
      | (with_reducible exact LeO.refl _)
      | (with_reducible exact LeO.none _)
      | (with_reducible refine LeO.ite ?_ ?_)
      | (with_reducible refine LeO.bind ?_ (fun _ => ?_))
      | exact ih0 _ _ _ _ _ _ _ _ _
      | exact ih1 _ _ _ _ _ _ _ _ _ _ _ _ _ _ _ _ _ _ _
      | exact LeO.none _
      | refine LeO.ite ?_ ?_
      | refine LeO.bind ?_ (fun _ => ?_)
    · intro y0 y1 y2 y3 y4 y5 y6 y7 y8 y9 y10 y11 y12 y13 y14 y15 y16 y17 y18
      unfold calamusref01_Div.l0
      repeat' first
      | (with_reducible exact ih0 _ _ _ _ _ _ _ _ _)
      | (with_reducible exact ih1 _ _ _ _ _ _ _ _ _ _ _ _ _ _ _ _ _ _ _)
      | (with_reducible exact LeO.refl _)
      | (with_reducible exact LeO.none _)
      | (with_reducible refine LeO.ite ?_ ?_)
      | (with_reducible refine LeO.bind ?_ (fun _ => ?_))
      | exact ih0 _ _ _ _ _ _ _ _ _
      | exact ih1 _ _ _ _ _ _ _ _ _ _ _ _ _ _ _ _ _ _ _
      | exact LeO.none _
      | refine LeO.ite ?_ ?_
      | refine LeO.bind ?_ (fun _ => ?_)
theorem calamusref01_Div.mono : ∀ a0 a1 a2 a3 a4 a5 a6 a7 a8 k, LeO (calamusref01_Div.f k a0 a1 a2 a3 a4 a5 a6 a7 a8) (calamusref01_Div.f (k + 1) a0 a1 a2 a3 a4 a5 a6 a7 a8) := by
  intro a0 a1 a2 a3 a4 a5 a6 a7 a8 k
  obtain ⟨ih0, ih1⟩ := calamusref01_Div.mono_l k
  exact ih0 a0 a1 a2 a3 a4 a5 a6 a7 a8

/-! ### calamuslaw01_WideDivs: function 4 -/
def calamuslaw01_WideDivs.f (k : Nat) (a0_0 : Int) (a0_1 : Int) (a1 : Int) : Option (Bool) := (calamuslaw01_alive.f k).bind fun t432 => (if t432 = true then ((calamuslaw01_Two_own.f a0_0 a0_1).bind fun bt433 => ((wide_Div.f k bt433.1 bt433.2 a1).bind fun bt435 => (if a1 < 1 then (if bt435.2.2.2 = 2 then (if (bt435.1 == 0 && (bt435.2.1 == 0)) = true then (some (bt435.2.2.1 == 0)) else (none)) else (none)) else ((calamuslaw01_Two_ref.f a0_0 a0_1).bind fun bt440 => ((calamusref01_Div.f k bt440.1 bt440.2.1 bt440.2.2.1 bt440.2.2.2.1 bt440.2.2.2.2.1 bt440.2.2.2.2.2.1 bt440.2.2.2.2.2.2.1 bt440.2.2.2.2.2.2.2 a1).bind fun bt448 => (if bt435.2.2.2 = 0 then ((calamuslaw01_is.f bt435.1 bt435.2.1 bt448.1 bt448.2.1 bt448.2.2.1 bt448.2.2.2.1 bt448.2.2.2.2.1 bt448.2.2.2.2.2.1 bt448.2.2.2.2.2.2.1 bt448.2.2.2.2.2.2.2.1).bind fun t458 => (if t458 = true then (some (bt435.2.2.1 == bt448.2.2.2.2.2.2.2.2)) else (none))) else (none))))))) else (none))
theorem calamuslaw01_WideDivs.mono : ∀ a0 a1 a2 k, LeO (calamuslaw01_WideDivs.f k a0 a1 a2) (calamuslaw01_WideDivs.f (k + 1) a0 a1 a2) := by
  intro a0 a1 a2 k
  unfold calamuslaw01_WideDivs.f
  repeat' first
      | (with_reducible exact calamuslaw01_alive.mono _)
      | (with_reducible exact calamusref01_Div.mono _ _ _ _ _ _ _ _ _ _)
      | (with_reducible exact wide_Div.mono _ _ _ _)
      | (with_reducible exact LeO.refl _)
      | (with_reducible exact LeO.none _)
      | (with_reducible refine LeO.ite ?_ ?_)
      | (with_reducible refine LeO.bind ?_ (fun _ => ?_))
      | exact calamuslaw01_alive.mono _
      | exact calamusref01_Div.mono _ _ _ _ _ _ _ _ _ _
      | exact wide_Div.mono _ _ _ _
      | exact LeO.none _
      | refine LeO.ite ?_ ?_
      | refine LeO.bind ?_ (fun _ => ?_)

/-! ### calamusref01_Root: function 28 -/
def calamusref01_Root.l0 : Nat → Int → Int → Int → Int → Int → Int → Int → Int → Int → Int → Int → Int → Int → Int → Int → Int → Int → Option (Int × Int × Int × Int × Int × Int × Int × Int)
  | 0, _, _, _, _, _, _, _, _, _, _, _, _, _, _, _, _, _ => none
  | k + 1, x4, x460000, x460001, x460002, x460003, x460004, x460005, x460006, x460007, x462000, x462001, x462002, x462003, x462004, x462005, x462006, x462007 => if x4 ≥ 0 then ((calamusref01_with.f x462000 x462001 x462002 x462003 x462004 x462005 x462006 x462007 x4).bind fun bt462 => ((calamusref01_Mul.f bt462.1 bt462.2.1 bt462.2.2.1 bt462.2.2.2.1 bt462.2.2.2.2.1 bt462.2.2.2.2.2.1 bt462.2.2.2.2.2.2.1 bt462.2.2.2.2.2.2.2 bt462.1 bt462.2.1 bt462.2.2.1 bt462.2.2.2.1 bt462.2.2.2.2.1 bt462.2.2.2.2.2.1 bt462.2.2.2.2.2.2.1 bt462.2.2.2.2.2.2.2).bind fun bt471 => ((calamusref01_Sign.f bt471.1 bt471.2.1 bt471.2.2.1 bt471.2.2.2.1 bt471.2.2.2.2.1 bt471.2.2.2.2.2.1 bt471.2.2.2.2.2.2.1 bt471.2.2.2.2.2.2.2).bind fun t480 => (if t480 ≥ 0 then ((calamusref01_Cmp.f bt471.1 bt471.2.1 bt471.2.2.1 bt471.2.2.2.1 bt471.2.2.2.2.1 bt471.2.2.2.2.2.1 bt471.2.2.2.2.2.2.1 bt471.2.2.2.2.2.2.2 x460000 x460001 x460002 x460003 x460004 x460005 x460006 x460007).bind fun t481 => (if t481 ≤ 0 then (calamusref01_Root.l0 k (wrap64 (x4 - 1)) x460000 x460001 x460002 x460003 x460004 x460005 x460006 x460007 bt462.1 bt462.2.1 bt462.2.2.1 bt462.2.2.2.1 bt462.2.2.2.2.1 bt462.2.2.2.2.2.1 bt462.2.2.2.2.2.2.1 bt462.2.2.2.2.2.2.2) else (calamusref01_Root.l0 k (wrap64 (x4 - 1)) x460000 x460001 x460002 x460003 x460004 x460005 x460006 x460007 x462000 x462001 x462002 x462003 x462004 x462005 x462006 x462007))) else (calamusref01_Root.l0 k (wrap64 (x4 - 1)) x460000 x460001 x460002 x460003 x460004 x460005 x460006 x460007 x462000 x462001 x462002 x462003 x462004 x462005 x462006 x462007))))) else (some (x462000, x462001, x462002, x462003, x462004, x462005, x462006, x462007))
def calamusref01_Root.f (k : Nat) (a0_0 : Int) (a0_1 : Int) (a0_2 : Int) (a0_3 : Int) (a0_4 : Int) (a0_5 : Int) (a0_6 : Int) (a0_7 : Int) : Option (Int × Int × Int × Int × Int × Int × Int × Int) := calamusref01_Root.l0 k 63 a0_0 a0_1 a0_2 a0_3 a0_4 a0_5 a0_6 a0_7 0 0 0 0 0 0 0 0
theorem calamusref01_Root.mono_l : ∀ k, (∀ y0 y1 y2 y3 y4 y5 y6 y7 y8 y9 y10 y11 y12 y13 y14 y15 y16, LeO (calamusref01_Root.l0 k y0 y1 y2 y3 y4 y5 y6 y7 y8 y9 y10 y11 y12 y13 y14 y15 y16) (calamusref01_Root.l0 (k + 1) y0 y1 y2 y3 y4 y5 y6 y7 y8 y9 y10 y11 y12 y13 y14 y15 y16))
  | 0 => fun _ _ _ _ _ _ _ _ _ _ _ _ _ _ _ _ _ r h => by simp [calamusref01_Root.l0] at h
  | k + 1 => by
    have ih0 := calamusref01_Root.mono_l k
    · intro y0 y1 y2 y3 y4 y5 y6 y7 y8 y9 y10 y11 y12 y13 y14 y15 y16
      unfold calamusref01_Root.l0
      repeat' first
      | (with_reducible exact ih0 _ _ _ _ _ _ _ _ _ _ _ _ _ _ _ _ _)
      | (with_reducible exact LeO.refl _)
      | (with_reducible exact LeO.none _)
      | (with_reducible refine LeO.ite ?_ ?_)
      | (with_reducible refine LeO.bind ?_ (fun _ => ?_))
      | exact ih0 _ _ _ _ _ _ _ _ _ _ _ _ _ _ _ _ _
      | exact LeO.none _
      | refine LeO.ite ?_ ?_
      | refine LeO.bind ?_ (fun _ => ?_)
theorem calamusref01_Root.mono : ∀ a0 a1 a2 a3 a4 a5 a6 a7 k, LeO (calamusref01_Root.f k a0 a1 a2 a3 a4 a5 a6 a7) (calamusref01_Root.f (k + 1) a0 a1 a2 a3 a4 a5 a6 a7) := by
  intro a0 a1 a2 a3 a4 a5 a6 a7 k
  have ih0 := calamusref01_Root.mono_l k
  unfold calamusref01_Root.f
  repeat' first
      | (with_reducible exact ih0 _ _ _ _ _ _ _ _ _ _ _ _ _ _ _ _ _)
      | (with_reducible exact LeO.refl _)
      | (with_reducible exact LeO.none _)
      | (with_reducible refine LeO.ite ?_ ?_)
      | (with_reducible refine LeO.bind ?_ (fun _ => ?_))
      | exact ih0 _ _ _ _ _ _ _ _ _ _ _ _ _ _ _ _ _
      | exact LeO.none _
      | refine LeO.ite ?_ ?_
      | refine LeO.bind ?_ (fun _ => ?_)

/-! ### calamuslaw01_WideRoots: function 5 -/
def calamuslaw01_WideRoots.f (k : Nat) (a0_0 : Int) (a0_1 : Int) : Option (Bool) := (calamuslaw01_alive.f k).bind fun t483 => (if t483 = true then ((calamuslaw01_Two_own.f a0_0 a0_1).bind fun bt484 => ((wide_Root.f k bt484.1 bt484.2).bind fun bt486 => (if a0_0 < 0 then (if bt486.2 = 2 then (some (bt486.1 == 0)) else (none)) else (if bt486.2 = 0 then ((calamusref01_Of.f 0 bt486.1).bind fun bt488 => ((calamuslaw01_Two_ref.f a0_0 a0_1).bind fun bt496 => ((calamusref01_Root.f k bt496.1 bt496.2.1 bt496.2.2.1 bt496.2.2.2.1 bt496.2.2.2.2.1 bt496.2.2.2.2.2.1 bt496.2.2.2.2.2.2.1 bt496.2.2.2.2.2.2.2).bind fun bt504 => (if bt488.1 = bt504.1 then (if bt488.2.1 = bt504.2.1 then (if bt488.2.2.1 = bt504.2.2.1 then (if bt488.2.2.2.1 = bt504.2.2.2.1 then (if bt488.2.2.2.2.1 = bt504.2.2.2.2.1 then (if bt488.2.2.2.2.2.1 = bt504.2.2.2.2.2.1 then (if bt488.2.2.2.2.2.2.1 = bt504.2.2.2.2.2.2.1 then (if bt488.2.2.2.2.2.2.2 = bt504.2.2.2.2.2.2.2 then (some true) else (none)) else (none)) else (none)) else (none)) else (none)) else (none)) else (none)) else (none))))) else (none))))) else (none))
theorem calamuslaw01_WideRoots.mono : ∀ a0 a1 k, LeO (calamuslaw01_WideRoots.f k a0 a1) (calamuslaw01_WideRoots.f (k + 1) a0 a1) := by
  intro a0 a1 k
  unfold calamuslaw01_WideRoots.f
  repeat' first
      | (with_reducible exact calamuslaw01_alive.mono _)
      | (with_reducible exact calamusref01_Root.mono _ _ _ _ _ _ _ _ _)
      | (with_reducible exact wide_Root.mono _ _ _)
      | (with_reducible exact LeO.refl _)
      | (with_reducible exact LeO.none _)
      | (with_reducible refine LeO.ite ?_ ?_)
      | (with_reducible refine LeO.bind ?_ (fun _ => ?_))
      | exact calamuslaw01_alive.mono _
      | exact calamusref01_Root.mono _ _ _ _ _ _ _ _ _
      | exact wide_Root.mono _ _ _
      | exact LeO.none _
      | refine LeO.ite ?_ ?_
      | refine LeO.bind ?_ (fun _ => ?_)

/-! ### calamuslaw01_WideOrder: function 6 -/
def calamuslaw01_WideOrder.f (k : Nat) (a0_0 : Int) (a0_1 : Int) (a1_0 : Int) (a1_1 : Int) : Option (Bool) := (calamuslaw01_alive.f k).bind fun t514 => (if t514 = true then ((wide_Cmp.f k (a0_0 / 2) a0_1 (a1_0 / 2) a1_1).bind fun t517 => ((wide_Sub.f (a0_0 / 2) a0_1 (a1_0 / 2) a1_1).bind fun bt518 => ((wide_Sign.f k bt518.1 bt518.2).bind fun t520 => (if t517 = t520 then ((wide_Cmp.f k (a0_0 / 2) a0_1 (a1_0 / 2) a1_1).bind fun t521 => ((wide_Cmp.f k (a1_0 / 2) a1_1 (a0_0 / 2) a0_1).bind fun t522 => (if t521 = (wrap64 (-t522)) then ((wide_Cmp.f k (a0_0 / 2) a0_1 (a0_0 / 2) a0_1).bind fun t523 => (some (t523 == 0))) else (none)))) else (none))))) else (none))
theorem calamuslaw01_WideOrder.mono : ∀ a0 a1 a2 a3 k, LeO (calamuslaw01_WideOrder.f k a0 a1 a2 a3) (calamuslaw01_WideOrder.f (k + 1) a0 a1 a2 a3) := by
  intro a0 a1 a2 a3 k
  unfold calamuslaw01_WideOrder.f
  repeat' first
      | (with_reducible exact calamuslaw01_alive.mono _)
      | (with_reducible exact wide_Cmp.mono _ _ _ _ _)
      | (with_reducible exact wide_Sign.mono _ _ _)
      | (with_reducible exact LeO.refl _)
      | (with_reducible exact LeO.none _)
      | (with_reducible refine LeO.ite ?_ ?_)
      | (with_reducible refine LeO.bind ?_ (fun _ => ?_))
      | exact calamuslaw01_alive.mono _
      | exact wide_Cmp.mono _ _ _ _ _
      | exact wide_Sign.mono _ _ _
      | exact LeO.none _
      | refine LeO.ite ?_ ?_
      | refine LeO.bind ?_ (fun _ => ?_)

/-! ### calamuslaw01_WideBack: function 7 -/
def calamuslaw01_WideBack.f (k : Nat) (a0 : Int) (a1 : Int) : Option (Bool) := (calamuslaw01_alive.f k).bind fun t524 => (if t524 = true then (if a1 < 1 then (some true) else ((wide_Of.f a0).bind fun bt525 => ((wide_Div.f k bt525.1 bt525.2 a1).bind fun bt527 => ((wide_Small.f bt527.1 bt527.2.1).bind fun bt532 => (if bt527.2.2.2 = 0 then (if bt532.2 = true then (if bt527.2.2.1 ≥ 0 then (if bt527.2.2.1 < a1 then ((wide_Mul.f bt532.1 a1).bind fun bt534 => ((wide_Of.f bt527.2.2.1).bind fun bt536 => ((wide_Add.f bt534.1 bt534.2 bt536.1 bt536.2).bind fun bt538 => ((wide_Of.f a0).bind fun bt540 => (some (bt538.1 == bt540.1 && (bt538.2 == bt540.2))))))) else (none)) else (none)) else (none)) else (none)))))) else (none))
theorem calamuslaw01_WideBack.mono : ∀ a0 a1 k, LeO (calamuslaw01_WideBack.f k a0 a1) (calamuslaw01_WideBack.f (k + 1) a0 a1) := by
  intro a0 a1 k
  unfold calamuslaw01_WideBack.f
  repeat' first
      | (with_reducible exact calamuslaw01_alive.mono _)
      | (with_reducible exact wide_Div.mono _ _ _ _)
      | (with_reducible exact LeO.refl _)
      | (with_reducible exact LeO.none _)
      | (with_reducible refine LeO.ite ?_ ?_)
      | (with_reducible refine LeO.bind ?_ (fun _ => ?_))
      | exact calamuslaw01_alive.mono _
      | exact wide_Div.mono _ _ _ _
      | exact LeO.none _
      | refine LeO.ite ?_ ?_
      | refine LeO.bind ?_ (fun _ => ?_)

/-! ### calamuslaw01_WideSquares: function 8 -/
def calamuslaw01_WideSquares.f (k : Nat) (a0 : Int) (a1 : Int) : Option (Bool) := (calamuslaw01_alive.f k).bind fun t542 => (if t542 = true then ((wide_Mul.f (wrap64 (a0)) (wrap64 (a0))).bind fun bt543 => (if (IntKind.u64.wrap ((IntKind.u64.wrap (2 * (IntKind.u64.wrap (a0)))) + 1)) = 0 then (none) else ((wide_Of.f (wrap64 (Int.tmod (IntKind.u64.wrap (a1)) (IntKind.u64.wrap ((IntKind.u64.wrap (2 * (IntKind.u64.wrap (a0)))) + 1))))).bind fun bt546 => ((wide_Add.f bt543.1 bt543.2 bt546.1 bt546.2).bind fun bt548 => ((wide_Root.f k bt543.1 bt543.2).bind fun bt551 => ((wide_Root.f k bt548.1 bt548.2).bind fun bt553 => (if bt551.2 = 0 then (if bt553.2 = 0 then (if bt551.1 = (IntKind.u64.wrap (a0)) then (some (bt553.1 == (IntKind.u64.wrap (a0)))) else (none)) else (none)) else (none)))))))) else (none))
theorem calamuslaw01_WideSquares.mono : ∀ a0 a1 k, LeO (calamuslaw01_WideSquares.f k a0 a1) (calamuslaw01_WideSquares.f (k + 1) a0 a1) := by
  intro a0 a1 k
  unfold calamuslaw01_WideSquares.f
  repeat' first
      | (with_reducible exact calamuslaw01_alive.mono _)
      | (with_reducible exact wide_Root.mono _ _ _)
      | (with_reducible exact LeO.refl _)
      | (with_reducible exact LeO.none _)
      | (with_reducible refine LeO.ite ?_ ?_)
      | (with_reducible refine LeO.bind ?_ (fun _ => ?_))
      | exact calamuslaw01_alive.mono _
      | exact wide_Root.mono _ _ _
      | exact LeO.none _
      | refine LeO.ite ?_ ?_
      | refine LeO.bind ?_ (fun _ => ?_)

/-! ### calamuslaw01_WideRing: function 9 -/
def calamuslaw01_WideRing.j0 : Nat → Bool → Int → Int → Int → Int → Int → Int → Option (Bool)
  | 0, _, _, _, _, _, _, _ => none
  | k + 1, x48, x556000, x556001, x557000, x557001, x558000, x558001 => if x48 = true then (none) else ((wide_Mul.f (wrap64 ((x556000 / 2) + (x557000 / 2))) x558000).bind fun bt584 => ((wide_Mul.f (x556000 / 2) x558000).bind fun bt586 => ((wide_Mul.f (x557000 / 2) x558000).bind fun bt588 => ((wide_Add.f bt586.1 bt586.2 bt588.1 bt588.2).bind fun bt590 => (if (bt584.1 == bt590.1 && (bt584.2 == bt590.2)) = true then ((wide_Mul.f (x556000 / 2) x558000).bind fun bt592 => ((wide_Mul.f x558000 (x556000 / 2)).bind fun bt594 => (some (bt592.1 == bt594.1 && (bt592.2 == bt594.2))))) else (none))))))
def calamuslaw01_WideRing.f (k : Nat) (a0_0 : Int) (a0_1 : Int) (a1_0 : Int) (a1_1 : Int) (a2_0 : Int) (a2_1 : Int) : Option (Bool) := (calamuslaw01_alive.f k).bind fun t558 => (if t558 = true then ((calamuslaw01_Two_own.f a0_0 a0_1).bind fun bt559 => ((calamuslaw01_Two_own.f a1_0 a1_1).bind fun bt561 => ((calamuslaw01_Two_own.f a2_0 a2_1).bind fun bt563 => ((wide_Add.f bt559.1 bt559.2 bt561.1 bt561.2).bind fun bt568 => ((wide_Add.f bt568.1 bt568.2 bt563.1 bt563.2).bind fun bt570 => ((wide_Add.f bt563.1 bt563.2 bt561.1 bt561.2).bind fun bt572 => ((wide_Add.f bt559.1 bt559.2 bt572.1 bt572.2).bind fun bt574 => (if (!(bt570.1 == bt574.1) || (!(bt570.2 == bt574.2))) = true then (calamuslaw01_WideRing.j0 k true a0_0 a0_1 a1_0 a1_1 a2_0 a2_1) else ((wide_Sub.f bt559.1 bt559.2 bt561.1 bt561.2).bind fun bt576 => ((wide_Add.f bt576.1 bt576.2 bt561.1 bt561.2).bind fun bt578 => (if (!(bt578.1 == bt559.1) || (!(bt578.2 == bt559.2))) = true then (calamuslaw01_WideRing.j0 k true a0_0 a0_1 a1_0 a1_1 a2_0 a2_1) else ((wide_Neg.f bt559.1 bt559.2).bind fun bt580 => ((wide_Add.f bt559.1 bt559.2 bt580.1 bt580.2).bind fun bt582 => (calamuslaw01_WideRing.j0 k (!(bt582.1 == 0) || (!(bt582.2 == 0))) a0_0 a0_1 a1_0 a1_1 a2_0 a2_1)))))))))))))) else (none))
theorem calamuslaw01_WideRing.mono_l : ∀ k, (∀ y0 y1 y2 y3 y4 y5 y6, LeO (calamuslaw01_WideRing.j0 k y0 y1 y2 y3 y4 y5 y6) (calamuslaw01_WideRing.j0 (k + 1) y0 y1 y2 y3 y4 y5 y6))
  | 0 => fun _ _ _ _ _ _ _ r h => by simp [calamuslaw01_WideRing.j0] at h
  | k + 1 => by
    have ih0 := calamuslaw01_WideRing.mono_l k
    · intro y0 y1 y2 y3 y4 y5 y6
      unfold calamuslaw01_WideRing.j0
      repeat' first
      | (with_reducible exact ih0 _ _ _ _ _ _ _)
      | (with_reducible exact calamuslaw01_alive.mono _)
      | (with_reducible exact LeO.refl _)
      | (with_reducible exact LeO.none _)
      | (with_reducible refine LeO.ite ?_ ?_)
      | (with_reducible refine LeO.bind ?_ (fun _ => ?_))
      | exact ih0 _ _ _ _ _ _ _
      | exact calamuslaw01_alive.mono _
      | exact LeO.none _
      | refine LeO.ite ?_ ?_
      | refine LeO.bind ?_ (fun _ => ?_)
theorem calamuslaw01_WideRing.mono : ∀ a0 a1 a2 a3 a4 a5 k, LeO (calamuslaw01_WideRing.f k a0 a1 a2 a3 a4 a5) (calamuslaw01_WideRing.f (k + 1) a0 a1 a2 a3 a4 a5) := by
  intro a0 a1 a2 a3 a4 a5 k
  have ih0 := calamuslaw01_WideRing.mono_l k
  unfold calamuslaw01_WideRing.f
  repeat' first
      | (with_reducible exact ih0 _ _ _ _ _ _ _)
      | (with_reducible exact calamuslaw01_alive.mono _)
      | (with_reducible exact LeO.refl _)
      | (with_reducible exact LeO.none _)
      | (with_reducible refine LeO.ite ?_ ?_)
      | (with_reducible refine LeO.bind ?_ (fun _ => ?_))
      | exact ih0 _ _ _ _ _ _ _
      | exact calamuslaw01_alive.mono _
      | exact LeO.none _
      | refine LeO.ite ?_ ?_
      | refine LeO.bind ?_ (fun _ => ?_)

end Go.Proofs.Ytiicdgimffpckaa.W
