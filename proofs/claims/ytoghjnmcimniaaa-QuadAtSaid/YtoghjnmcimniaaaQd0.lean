/- What Go functions answer, as Lean functions, and that they do: written by wip/xprint.py of this session (the kit's printer with turns, texts by hand among them). -/
import Derived.Test.YtoghjnmcimniaaaQ0
import Derived.Test.YtoghjnmcimniaaaQe0
import Derived.Test.YtoghjnmcimniaaaQe1
namespace Go.Proofs.Ytoghjnmcimniaaa.Q
open Go.RowKit Go.Proofs.YtoghjnmcimniaaaW.PrintWords Go.Proofs.YtoghjnmcimniaaaW.PrintLast Go.Proofs.YtoghjnmcimniaaaW.PrintMore
attribute [local go_sem] max2_int min2_int max_two min_two max_three min_three max_four min_four   -- for this text's walks alone
set_option linter.unusedVariables false
set_option linter.unusedSimpArgs false

attribute [local go_sem high] eqA33 eqA37
/-! ### gauss_Good: function 61 -/
def gauss_Good.l0 : Nat → List (S33) → Int → Int → Option (Bool)
  | 0, _, _, _ => none
  | k + 1, x5, x6, x7 => if x7 < x6 then (if 0 ≤ x7 then (if x7 < (x5.length : Int) then (if ((rd_T33 x5 x7).f0) < (-4194304) then (some false) else (if ((rd_T33 x5 x7).f0) > 4194304 then (some false) else (if ((rd_T33 x5 x7).f1) < (-4194304) then (some false) else (if ((rd_T33 x5 x7).f1) > 4194304 then (some false) else (gauss_Good.l0 k x5 x6 (wrap64 (x7 + 1))))))) else (none)) else (none)) else (some true)
def gauss_Good.f (k : Nat) (l0 : List (S33)) : Option (Bool) := gauss_Good.l0 k l0 (l0.length : Int) 0
theorem gauss_Good.mono_l : ∀ k, (∀ y0 y1 y2, LeO (gauss_Good.l0 k y0 y1 y2) (gauss_Good.l0 (k + 1) y0 y1 y2))
  | 0 => fun _ _ _ r h => by simp [gauss_Good.l0] at h
  | k + 1 => by
    have ih0 := gauss_Good.mono_l k
    · intro y0 y1 y2
      unfold gauss_Good.l0
      repeat' first
      | (with_reducible exact ih0 _ _ _)
      | (with_reducible exact LeO.refl _)
      | (with_reducible exact LeO.none _)
      | (with_reducible refine LeO.ite ?_ ?_)
      | (with_reducible refine LeO.bind ?_ (fun _ => ?_))
      | exact ih0 _ _ _
      | exact LeO.none _
      | refine LeO.ite ?_ ?_
      | refine LeO.bind ?_ (fun _ => ?_)
theorem gauss_Good.mono : ∀ a0 k, LeO (gauss_Good.f k a0) (gauss_Good.f (k + 1) a0) := by
  intro a0 k
  have ih0 := gauss_Good.mono_l k
  unfold gauss_Good.f
  repeat' first
      | (with_reducible exact ih0 _ _ _)
      | (with_reducible exact LeO.refl _)
      | (with_reducible exact LeO.none _)
      | (with_reducible refine LeO.ite ?_ ?_)
      | (with_reducible refine LeO.bind ?_ (fun _ => ?_))
      | exact ih0 _ _ _
      | exact LeO.none _
      | refine LeO.ite ?_ ?_
      | refine LeO.bind ?_ (fun _ => ?_)

/-! ### quad_good: function 52 -/
def quad_good.f (k : Nat) (a0_0 : Int) (a0_1 : Int) (a0_2 : Int) (a0_3 : Int) (a0_4 : Int) (a0_5 : Int) (a0_6 : Bool) : Option (Bool) := (gauss_Good.f k (([(⟨a0_0, a0_1⟩ : S33), (⟨a0_4, a0_5⟩ : S33)] : List (S33)))).bind fun t107 => (if t107 = true then (if a0_6 = true then ((gauss_Good.f k (([(⟨a0_2, a0_3⟩ : S33)] : List (S33)))).bind fun t111 => (some t111)) else (some true)) else (some false))
theorem quad_good.mono : ∀ a0 a1 a2 a3 a4 a5 a6 k, LeO (quad_good.f k a0 a1 a2 a3 a4 a5 a6) (quad_good.f (k + 1) a0 a1 a2 a3 a4 a5 a6) := by
  intro a0 a1 a2 a3 a4 a5 a6 k
  unfold quad_good.f
  repeat' first
      | (with_reducible exact gauss_Good.mono _ _)
      | (with_reducible exact LeO.refl _)
      | (with_reducible exact LeO.none _)
      | (with_reducible refine LeO.ite ?_ ?_)
      | (with_reducible refine LeO.bind ?_ (fun _ => ?_))
      | exact gauss_Good.mono _ _
      | exact LeO.none _
      | refine LeO.ite ?_ ?_
      | refine LeO.bind ?_ (fun _ => ?_)

/-! ### quad_mix: function 53 (by hand) -/
-- EXT calamus/quad.mix rounds=0 making=1
def quad_mix.f (a0_0 : Int) (a0_1 : Int) (a0_2 : Int) (a0_3 : Int) (a0_4 : Int) (a0_5 : Int) (a0_6 : Bool) (a1 : Int) (a2 : Int) (a3 : Int) : Option (Int × Int) :=
  some (wrap64 (wrap64 (wrap64 (a1 * a0_0) + wrap64 (a2 * a0_2)) + wrap64 (a3 * a0_4)), wrap64 (wrap64 (wrap64 (a1 * a0_1) + wrap64 (a2 * a0_3)) + wrap64 (a3 * a0_5)))

/-! ### quad_At: function 32 -/
def quad_At.j0 : Nat → Int → Int → Bool → Int → Int → Int → Int → Int → Int → Bool → Option (Int × Int × Int)
  | 0, _, _, _, _, _, _, _, _, _, _ => none
  | k + 1, x1, x2, x9, x113000, x113001, x113002, x113003, x113004, x113005, x113006 => if x9 = true then (some (0, 0, 2)) else ((quad_good.f k x113000 x113001 x113002 x113003 x113004 x113005 x113006).bind fun t114 => (if t114 = true then (if x113006 = true then (if 0 ≤ x2 then ((quad_mix.f x113000 x113001 x113002 x113003 x113004 x113005 x113006 (wrap64 ((wrap64 ((shl .i64 1 x2) - x1)) * (wrap64 ((shl .i64 1 x2) - x1)))) (wrap64 ((wrap64 (2 * x1)) * (wrap64 ((shl .i64 1 x2) - x1)))) (wrap64 (x1 * x1))).bind fun bt115 => (some (bt115.1, bt115.2, 0))) else (none)) else (if 0 ≤ x2 then ((quad_mix.f x113000 x113001 0 0 x113004 x113005 x113006 (shl .i64 (wrap64 ((shl .i64 1 x2) - x1)) x2) 0 (shl .i64 x1 x2)).bind fun bt117 => (some (bt117.1, bt117.2, 0))) else (none))) else (some (0, 0, 6))))
def quad_At.f (k : Nat) (a0_0 : Int) (a0_1 : Int) (a0_2 : Int) (a0_3 : Int) (a0_4 : Int) (a0_5 : Int) (a0_6 : Bool) (a1 : Int) (a2 : Int) : Option (Int × Int × Int) := if a2 < 0 then (quad_At.j0 k a1 a2 true a0_0 a0_1 a0_2 a0_3 a0_4 a0_5 a0_6) else (if a2 > 10 then (quad_At.j0 k a1 a2 true a0_0 a0_1 a0_2 a0_3 a0_4 a0_5 a0_6) else (if a1 < 0 then (quad_At.j0 k a1 a2 true a0_0 a0_1 a0_2 a0_3 a0_4 a0_5 a0_6) else (if 0 ≤ a2 then (quad_At.j0 k a1 a2 (decide (a1 > (shl .i64 1 a2))) a0_0 a0_1 a0_2 a0_3 a0_4 a0_5 a0_6) else (none))))
theorem quad_At.mono_l : ∀ k, (∀ y0 y1 y2 y3 y4 y5 y6 y7 y8 y9, LeO (quad_At.j0 k y0 y1 y2 y3 y4 y5 y6 y7 y8 y9) (quad_At.j0 (k + 1) y0 y1 y2 y3 y4 y5 y6 y7 y8 y9))
  | 0 => fun _ _ _ _ _ _ _ _ _ _ r h => by simp [quad_At.j0] at h
  | k + 1 => by
    have ih0 := quad_At.mono_l k
    · intro y0 y1 y2 y3 y4 y5 y6 y7 y8 y9
      unfold quad_At.j0
      repeat' first
      | (with_reducible exact ih0 _ _ _ _ _ _ _ _ _ _)
      | (with_reducible exact quad_good.mono _ _ _ _ _ _ _ _)
      | (with_reducible exact LeO.refl _)
      | (with_reducible exact LeO.none _)
      | (with_reducible refine LeO.ite ?_ ?_)
      | (with_reducible refine LeO.bind ?_ (fun _ => ?_))
      | exact ih0 _ _ _ _ _ _ _ _ _ _
      | exact quad_good.mono _ _ _ _ _ _ _ _
      | exact LeO.none _
      | refine LeO.ite ?_ ?_
      | refine LeO.bind ?_ (fun _ => ?_)
theorem quad_At.mono : ∀ a0 a1 a2 a3 a4 a5 a6 a7 a8 k, LeO (quad_At.f k a0 a1 a2 a3 a4 a5 a6 a7 a8) (quad_At.f (k + 1) a0 a1 a2 a3 a4 a5 a6 a7 a8) := by
  intro a0 a1 a2 a3 a4 a5 a6 a7 a8 k
  have ih0 := quad_At.mono_l k
  unfold quad_At.f
  repeat' first
      | (with_reducible exact ih0 _ _ _ _ _ _ _ _ _ _)
      | (with_reducible exact quad_good.mono _ _ _ _ _ _ _ _)
      | (with_reducible exact LeO.refl _)
      | (with_reducible exact LeO.none _)
      | (with_reducible refine LeO.ite ?_ ?_)
      | (with_reducible refine LeO.bind ?_ (fun _ => ?_))
      | exact ih0 _ _ _ _ _ _ _ _ _ _
      | exact quad_good.mono _ _ _ _ _ _ _ _
      | exact LeO.none _
      | refine LeO.ite ?_ ?_
      | refine LeO.bind ?_ (fun _ => ?_)

/-! ### quad_Round: function 33 -/
def quad_Round.f (k : Nat) (a0_0 : Int) (a0_1 : Int) (a0_2 : Int) (a0_3 : Int) (a0_4 : Int) (a0_5 : Int) (a0_6 : Bool) (a1 : Int) (a2 : Int) : Option (Int × Int × Int) := (quad_At.f k a0_0 a0_1 a0_2 a0_3 a0_4 a0_5 a0_6 a1 a2).bind fun bt121 => (if bt121.2.2 = 0 then (if 0 ≤ (wrap64 (2 * a2)) then (some (shr .i64 (wrap64 (bt121.1 + ((shl .i64 1 (wrap64 (2 * a2))) / 2))) (wrap64 (2 * a2)), shr .i64 (wrap64 (bt121.2.1 + ((shl .i64 1 (wrap64 (2 * a2))) / 2))) (wrap64 (2 * a2)), 0)) else (none)) else (some (0, 0, bt121.2.2)))
theorem quad_Round.mono : ∀ a0 a1 a2 a3 a4 a5 a6 a7 a8 k, LeO (quad_Round.f k a0 a1 a2 a3 a4 a5 a6 a7 a8) (quad_Round.f (k + 1) a0 a1 a2 a3 a4 a5 a6 a7 a8) := by
  intro a0 a1 a2 a3 a4 a5 a6 a7 a8 k
  unfold quad_Round.f
  repeat' first
      | (with_reducible exact quad_At.mono _ _ _ _ _ _ _ _ _ _)
      | (with_reducible exact LeO.refl _)
      | (with_reducible exact LeO.none _)
      | (with_reducible refine LeO.ite ?_ ?_)
      | (with_reducible refine LeO.bind ?_ (fun _ => ?_))
      | exact quad_At.mono _ _ _ _ _ _ _ _ _ _
      | exact LeO.none _
      | refine LeO.ite ?_ ?_
      | refine LeO.bind ?_ (fun _ => ?_)

/-! ### quad_near: function 58 -/
def quad_near.l0 : Nat → List (S33) → Int → Int → Option (Bool)
  | 0, _, _, _ => none
  | k + 1, x5, x6, x7 => if x7 < x6 then (if 0 ≤ x7 then (if x7 < (x5.length : Int) then (if ((rd_T33 x5 x7).f0) < (-1048576) then (some false) else (if ((rd_T33 x5 x7).f0) > 1048576 then (some false) else (if ((rd_T33 x5 x7).f1) < (-1048576) then (some false) else (if ((rd_T33 x5 x7).f1) > 1048576 then (some false) else (quad_near.l0 k x5 x6 (wrap64 (x7 + 1))))))) else (none)) else (none)) else (some true)
def quad_near.f (k : Nat) (l0 : List (S33)) : Option (Bool) := quad_near.l0 k l0 (l0.length : Int) 0
theorem quad_near.mono_l : ∀ k, (∀ y0 y1 y2, LeO (quad_near.l0 k y0 y1 y2) (quad_near.l0 (k + 1) y0 y1 y2))
  | 0 => fun _ _ _ r h => by simp [quad_near.l0] at h
  | k + 1 => by
    have ih0 := quad_near.mono_l k
    · intro y0 y1 y2
      unfold quad_near.l0
      repeat' first
      | (with_reducible exact ih0 _ _ _)
      | (with_reducible exact LeO.refl _)
      | (with_reducible exact LeO.none _)
      | (with_reducible refine LeO.ite ?_ ?_)
      | (with_reducible refine LeO.bind ?_ (fun _ => ?_))
      | exact ih0 _ _ _
      | exact LeO.none _
      | refine LeO.ite ?_ ?_
      | refine LeO.bind ?_ (fun _ => ?_)
theorem quad_near.mono : ∀ a0 k, LeO (quad_near.f k a0) (quad_near.f (k + 1) a0) := by
  intro a0 k
  have ih0 := quad_near.mono_l k
  unfold quad_near.f
  repeat' first
      | (with_reducible exact ih0 _ _ _)
      | (with_reducible exact LeO.refl _)
      | (with_reducible exact LeO.none _)
      | (with_reducible refine LeO.ite ?_ ?_)
      | (with_reducible refine LeO.bind ?_ (fun _ => ?_))
      | exact ih0 _ _ _
      | exact LeO.none _
      | refine LeO.ite ?_ ?_
      | refine LeO.bind ?_ (fun _ => ?_)

/-! ### quad_Split: function 36 -/
def quad_Split.j0 : Nat → Int → Int → Int → Int → Int → Int → Bool → Int → Int → Int → Int → Int → Int → Bool → Int → Int → Int → Int → Int → Int → Bool → Option (Int × Int × Int × Int × Int × Int × Bool × Int × Int × Int × Int × Int × Int × Bool × Int)
  | 0, _, _, _, _, _, _, _, _, _, _, _, _, _, _, _, _, _, _, _, _, _ => none
  | k + 1, x128000, x128001, x128002, x128003, x128004, x128005, x128006, x129000, x129001, x129002, x129003, x129004, x129005, x129006, x130000, x130001, x130002, x130003, x130004, x130005, x130006 => (quad_near.f k (([(⟨x128000, x128001⟩ : S33), (⟨x128004, x128005⟩ : S33), (⟨x128002, x128003⟩ : S33)] : List (S33)))).bind fun t133 => (if t133 = true then ((quad_mix.f x128000 x128001 x128002 x128003 x128004 x128005 x128006 4 0 0).bind fun bt134 => ((quad_mix.f x128000 x128001 x128002 x128003 x128004 x128005 x128006 0 0 4).bind fun bt136 => (if x128006 = true then ((quad_mix.f x128000 x128001 x128002 x128003 x128004 x128005 x128006 2 2 0).bind fun bt138 => ((quad_mix.f x128000 x128001 x128002 x128003 x128004 x128005 x128006 1 2 1).bind fun bt140 => ((quad_mix.f x128000 x128001 x128002 x128003 x128004 x128005 x128006 0 2 2).bind fun bt142 => (some (bt134.1, bt134.2, bt138.1, bt138.2, bt140.1, bt140.2, true, bt140.1, bt140.2, bt142.1, bt142.2, bt136.1, bt136.2, true, 0))))) else ((quad_mix.f x128000 x128001 x128002 x128003 x128004 x128005 x128006 2 0 2).bind fun bt144 => (some (bt134.1, bt134.2, x129002, x129003, bt144.1, bt144.2, x129006, bt144.1, bt144.2, x130002, x130003, bt136.1, bt136.2, x130006, 0)))))) else (some (0, 0, 0, 0, 0, 0, false, 0, 0, 0, 0, 0, 0, false, 6)))
def quad_Split.f (k : Nat) (a0_0 : Int) (a0_1 : Int) (a0_2 : Int) (a0_3 : Int) (a0_4 : Int) (a0_5 : Int) (a0_6 : Bool) : Option (Int × Int × Int × Int × Int × Int × Bool × Int × Int × Int × Int × Int × Int × Bool × Int) := if a0_6 = true then (quad_Split.j0 k a0_0 a0_1 a0_2 a0_3 a0_4 a0_5 a0_6 0 0 0 0 0 0 false 0 0 0 0 0 0 false) else (quad_Split.j0 k a0_0 a0_1 0 0 a0_4 a0_5 a0_6 0 0 0 0 0 0 false 0 0 0 0 0 0 false)
theorem quad_Split.mono_l : ∀ k, (∀ y0 y1 y2 y3 y4 y5 y6 y7 y8 y9 y10 y11 y12 y13 y14 y15 y16 y17 y18 y19 y20, LeO (quad_Split.j0 k y0 y1 y2 y3 y4 y5 y6 y7 y8 y9 y10 y11 y12 y13 y14 y15 y16 y17 y18 y19 y20) (quad_Split.j0 (k + 1) y0 y1 y2 y3 y4 y5 y6 y7 y8 y9 y10 y11 y12 y13 y14 y15 y16 y17 y18 y19 y20))
  | 0 => fun _ _ _ _ _ _ _ _ _ _ _ _ _ _ _ _ _ _ _ _ _ r h => by simp [quad_Split.j0] at h
  | k + 1 => by
    have ih0 := quad_Split.mono_l k
    · intro y0 y1 y2 y3 y4 y5 y6 y7 y8 y9 y10 y11 y12 y13 y14 y15 y16 y17 y18 y19 y20
      unfold quad_Split.j0
      repeat' first
      | (with_reducible exact ih0 _ _ _ _ _ _ _ _ _ _ _ _ _ _ _ _ _ _ _ _ _)
      | (with_reducible exact quad_near.mono _ _)
      | (with_reducible exact LeO.refl _)
      | (with_reducible exact LeO.none _)
      | (with_reducible refine LeO.ite ?_ ?_)
      | (with_reducible refine LeO.bind ?_ (fun _ => ?_))
      | exact ih0 _ _ _ _ _ _ _ _ _ _ _ _ _ _ _ _ _ _ _ _ _
      | exact quad_near.mono _ _
      | exact LeO.none _
      | refine LeO.ite ?_ ?_
      | refine LeO.bind ?_ (fun _ => ?_)
theorem quad_Split.mono : ∀ a0 a1 a2 a3 a4 a5 a6 k, LeO (quad_Split.f k a0 a1 a2 a3 a4 a5 a6) (quad_Split.f (k + 1) a0 a1 a2 a3 a4 a5 a6) := by
  intro a0 a1 a2 a3 a4 a5 a6 k
  have ih0 := quad_Split.mono_l k
  unfold quad_Split.f
  repeat' first
      | (with_reducible exact ih0 _ _ _ _ _ _ _ _ _ _ _ _ _ _ _ _ _ _ _ _ _)
      | (with_reducible exact quad_near.mono _ _)
      | (with_reducible exact LeO.refl _)
      | (with_reducible exact LeO.none _)
      | (with_reducible refine LeO.ite ?_ ?_)
      | (with_reducible refine LeO.bind ?_ (fun _ => ?_))
      | exact ih0 _ _ _ _ _ _ _ _ _ _ _ _ _ _ _ _ _ _ _ _ _
      | exact quad_near.mono _ _
      | exact LeO.none _
      | refine LeO.ite ?_ ?_
      | refine LeO.bind ?_ (fun _ => ?_)

/-! ### quad_Bend: function 43 -/
def quad_Bend.f (k : Nat) (a0_0 : Int) (a0_1 : Int) (a0_2 : Int) (a0_3 : Int) (a0_4 : Int) (a0_5 : Int) (a0_6 : Bool) : Option (Int) := if a0_6 = true then ((quad_good.f k a0_0 a0_1 a0_2 a0_3 a0_4 a0_5 a0_6).bind fun t147 => (if t147 = true then ((quad_mix.f a0_0 a0_1 a0_2 a0_3 a0_4 a0_5 a0_6 1 (-2) 1).bind fun bt148 => (some (mx (mx (mx bt148.1 (wrap64 (-bt148.1))) bt148.2) (wrap64 (-bt148.2))))) else (some 0))) else (some 0)
theorem quad_Bend.mono : ∀ a0 a1 a2 a3 a4 a5 a6 k, LeO (quad_Bend.f k a0 a1 a2 a3 a4 a5 a6) (quad_Bend.f (k + 1) a0 a1 a2 a3 a4 a5 a6) := by
  intro a0 a1 a2 a3 a4 a5 a6 k
  unfold quad_Bend.f
  repeat' first
      | (with_reducible exact quad_good.mono _ _ _ _ _ _ _ _)
      | (with_reducible exact LeO.refl _)
      | (with_reducible exact LeO.none _)
      | (with_reducible refine LeO.ite ?_ ?_)
      | (with_reducible refine LeO.bind ?_ (fun _ => ?_))
      | exact quad_good.mono _ _ _ _ _ _ _ _
      | exact LeO.none _
      | refine LeO.ite ?_ ?_
      | refine LeO.bind ?_ (fun _ => ?_)

/-! ### quad_Steps: function 39 -/
def quad_Steps.l0 : Nat → Int → Int → Option (Int)
  | 0, _, _ => none
  | k + 1, x3, x4 => if 0 ≤ (wrap64 (2 * x3)) then (if x4 > (shl .i64 64 (wrap64 (2 * x3))) then (quad_Steps.l0 k (wrap64 (x3 + 1)) x4) else (some x3)) else (none)
def quad_Steps.f (k : Nat) (a0_0 : Int) (a0_1 : Int) (a0_2 : Int) (a0_3 : Int) (a0_4 : Int) (a0_5 : Int) (a0_6 : Bool) : Option (Int) := (quad_Bend.f k a0_0 a0_1 a0_2 a0_3 a0_4 a0_5 a0_6).bind fun t152 => (quad_Steps.l0 k 0 t152)
theorem quad_Steps.mono_l : ∀ k, (∀ y0 y1, LeO (quad_Steps.l0 k y0 y1) (quad_Steps.l0 (k + 1) y0 y1))
  | 0 => fun _ _ r h => by simp [quad_Steps.l0] at h
  | k + 1 => by
    have ih0 := quad_Steps.mono_l k
    · intro y0 y1
      unfold quad_Steps.l0
      repeat' first
      | (with_reducible exact ih0 _ _)
      | (with_reducible exact quad_Bend.mono _ _ _ _ _ _ _ _)
      | (with_reducible exact LeO.refl _)
      | (with_reducible exact LeO.none _)
      | (with_reducible refine LeO.ite ?_ ?_)
      | (with_reducible refine LeO.bind ?_ (fun _ => ?_))
      | exact ih0 _ _
      | exact quad_Bend.mono _ _ _ _ _ _ _ _
      | exact LeO.none _
      | refine LeO.ite ?_ ?_
      | refine LeO.bind ?_ (fun _ => ?_)
theorem quad_Steps.mono : ∀ a0 a1 a2 a3 a4 a5 a6 k, LeO (quad_Steps.f k a0 a1 a2 a3 a4 a5 a6) (quad_Steps.f (k + 1) a0 a1 a2 a3 a4 a5 a6) := by
  intro a0 a1 a2 a3 a4 a5 a6 k
  have ih0 := quad_Steps.mono_l k
  unfold quad_Steps.f
  repeat' first
      | (with_reducible exact ih0 _ _)
      | (with_reducible exact quad_Bend.mono _ _ _ _ _ _ _ _)
      | (with_reducible exact LeO.refl _)
      | (with_reducible exact LeO.none _)
      | (with_reducible refine LeO.ite ?_ ?_)
      | (with_reducible refine LeO.bind ?_ (fun _ => ?_))
      | exact ih0 _ _
      | exact quad_Bend.mono _ _ _ _ _ _ _ _
      | exact LeO.none _
      | refine LeO.ite ?_ ?_
      | refine LeO.bind ?_ (fun _ => ?_)

/-! ### calamuslaw13_alive: function 31 -/
def calamuslaw13_alive.f (k : Nat)  : Option (Bool) := (quad_At.f k 0 0 64 0 64 64 true 1 1).bind fun bt155 => ((quad_Round.f k 0 0 64 0 64 64 true 1 1).bind fun bt159 => ((quad_Split.f k 0 0 64 0 64 64 true).bind fun bt163 => (if (bt155.1 == 192 && (bt155.2.1 == 64)) = true then (if (bt159.1 == 48 && (bt159.2.1 == 16)) = true then (if bt155.2.2 = 0 then (if bt159.2.2 = 0 then ((quad_Bend.f k 0 0 64 0 64 64 true).bind fun t180 => (if t180 = 64 then ((quad_Steps.f k 0 0 64 0 64 64 true).bind fun t181 => (if t181 = 0 then ((quad_Bend.f k 0 0 1000 0 1000 1000 true).bind fun t182 => (if t182 = 1000 then ((quad_Steps.f k 0 0 1000 0 1000 1000 true).bind fun t183 => (if t183 = 2 then (if bt163.2.2.2.2.2.2.2.2.2.2.2.2.2.2 = 0 then (if (bt163.2.2.2.2.1 == bt155.1 && (bt163.2.2.2.2.2.1 == bt155.2.1)) = true then (some (bt163.2.2.2.2.2.2.2.2.2.1 == 256 && (bt163.2.2.2.2.2.2.2.2.2.2.1 == 128))) else (none)) else (none)) else (none))) else (none))) else (none))) else (none))) else (none)) else (none)) else (none)) else (none))))
theorem calamuslaw13_alive.mono : ∀ k, LeO (calamuslaw13_alive.f k ) (calamuslaw13_alive.f (k + 1) ) := by
  intro  k
  unfold calamuslaw13_alive.f
  repeat' first
      | (with_reducible exact quad_At.mono _ _ _ _ _ _ _ _ _ _)
      | (with_reducible exact quad_Bend.mono _ _ _ _ _ _ _ _)
      | (with_reducible exact quad_Round.mono _ _ _ _ _ _ _ _ _ _)
      | (with_reducible exact quad_Split.mono _ _ _ _ _ _ _ _)
      | (with_reducible exact quad_Steps.mono _ _ _ _ _ _ _ _)
      | (with_reducible exact LeO.refl _)
      | (with_reducible exact LeO.none _)
      | (with_reducible refine LeO.ite ?_ ?_)
      | (with_reducible refine LeO.bind ?_ (fun _ => ?_))
      | exact quad_At.mono _ _ _ _ _ _ _ _ _ _
      | exact quad_Bend.mono _ _ _ _ _ _ _ _
      | exact quad_Round.mono _ _ _ _ _ _ _ _ _ _
      | exact quad_Split.mono _ _ _ _ _ _ _ _
      | exact quad_Steps.mono _ _ _ _ _ _ _ _
      | exact LeO.none _
      | refine LeO.ite ?_ ?_
      | refine LeO.bind ?_ (fun _ => ?_)

/-! ### calamusref13_Power: function 54 -/
def calamusref13_Power.l0 : Nat → Int → Int → Int → Int → Option (Int)
  | 0, _, _, _, _ => none
  | k + 1, x0, x1, x5, x6 => if x6 < x1 then (calamusref13_Power.l0 k x0 x1 (wrap64 (x5 * x0)) (wrap64 (x6 + 1))) else (some x5)
def calamusref13_Power.f (k : Nat) (a0 : Int) (a1 : Int) : Option (Int) := calamusref13_Power.l0 k a0 a1 1 0
theorem calamusref13_Power.mono_l : ∀ k, (∀ y0 y1 y2 y3, LeO (calamusref13_Power.l0 k y0 y1 y2 y3) (calamusref13_Power.l0 (k + 1) y0 y1 y2 y3))
  | 0 => fun _ _ _ _ r h => by simp [calamusref13_Power.l0] at h
  | k + 1 => by
    have ih0 := calamusref13_Power.mono_l k
    · intro y0 y1 y2 y3
      unfold calamusref13_Power.l0
      repeat' first
      | (with_reducible exact ih0 _ _ _ _)
      | (with_reducible exact LeO.refl _)
      | (with_reducible exact LeO.none _)
      | (with_reducible refine LeO.ite ?_ ?_)
      | (with_reducible refine LeO.bind ?_ (fun _ => ?_))
      | exact ih0 _ _ _ _
      | exact LeO.none _
      | refine LeO.ite ?_ ?_
      | refine LeO.bind ?_ (fun _ => ?_)
theorem calamusref13_Power.mono : ∀ a0 a1 k, LeO (calamusref13_Power.f k a0 a1) (calamusref13_Power.f (k + 1) a0 a1) := by
  intro a0 a1 k
  have ih0 := calamusref13_Power.mono_l k
  unfold calamusref13_Power.f
  repeat' first
      | (with_reducible exact ih0 _ _ _ _)
      | (with_reducible exact LeO.refl _)
      | (with_reducible exact LeO.none _)
      | (with_reducible refine LeO.ite ?_ ?_)
      | (with_reducible refine LeO.bind ?_ (fun _ => ?_))
      | exact ih0 _ _ _ _
      | exact LeO.none _
      | refine LeO.ite ?_ ?_
      | refine LeO.bind ?_ (fun _ => ?_)

/-! ### calamusref10_Good: function 65 -/
def calamusref10_Good.f (a0_0 : Int) (a0_1 : Int) : Option (Bool) := if a0_0 ≥ (-4194304) then (if a0_0 ≤ 4194304 then (if a0_1 ≥ (-4194304) then (some (decide (a0_1 ≤ 4194304))) else (some false)) else (some false)) else (some false)

/-! ### calamusref13_Good: function 55 -/
def calamusref13_Good.f (a0_0 : Int) (a0_1 : Int) (a0_2 : Int) (a0_3 : Int) (a0_4 : Int) (a0_5 : Int) (a0_6 : Bool) : Option (Bool) := (calamusref10_Good.f a0_0 a0_1).bind fun t186 => (if t186 = true then ((calamusref10_Good.f a0_4 a0_5).bind fun t187 => (if t187 = true then (if a0_6 = true then ((calamusref10_Good.f a0_2 a0_3).bind fun t188 => (some t188)) else (some true)) else (some false))) else (some false))

/-! ### calamusref13_point: function 56 -/
def calamusref13_point.f (a0_0 : Int) (a0_1 : Int) (a0_2 : Int) (a0_3 : Int) (a0_4 : Int) (a0_5 : Int) (a0_6 : Bool) (a1 : Int) (a2 : Int) (a3 : Int) : Option (Int × Int) := some (wrap64 ((wrap64 ((wrap64 (a1 * a0_0)) + (wrap64 (a2 * a0_2)))) + (wrap64 (a3 * a0_4))), wrap64 ((wrap64 ((wrap64 (a1 * a0_1)) + (wrap64 (a2 * a0_3)))) + (wrap64 (a3 * a0_5))))

/-! ### calamusref13_At: function 34 -/
def calamusref13_At.j0 : Nat → Int → Int → Bool → Int → Int → Int → Int → Int → Int → Bool → Option (Int × Int × Int)
  | 0, _, _, _, _, _, _, _, _, _, _ => none
  | k + 1, x1, x2, x24, x192000, x192001, x192002, x192003, x192004, x192005, x192006 => if x24 = true then (some (0, 0, 2)) else ((calamusref13_Good.f x192000 x192001 x192002 x192003 x192004 x192005 x192006).bind fun t194 => (if t194 = true then ((calamusref13_Power.f k 2 x2).bind fun t195 => (if x192006 = true then ((calamusref13_point.f x192000 x192001 x192002 x192003 x192004 x192005 x192006 (wrap64 ((wrap64 (t195 - x1)) * (wrap64 (t195 - x1)))) (wrap64 ((wrap64 (2 * x1)) * (wrap64 (t195 - x1)))) (wrap64 (x1 * x1))).bind fun bt196 => (some (bt196.1, bt196.2, 0))) else ((calamusref13_Power.f k 2 x2).bind fun t198 => ((calamusref13_Power.f k 2 x2).bind fun t199 => ((calamusref13_point.f x192000 x192001 0 0 x192004 x192005 x192006 (wrap64 ((wrap64 (t195 - x1)) * t198)) 0 (wrap64 (x1 * t199))).bind fun bt200 => (some (bt200.1, bt200.2, 0))))))) else (some (0, 0, 6))))
def calamusref13_At.f (k : Nat) (a0_0 : Int) (a0_1 : Int) (a0_2 : Int) (a0_3 : Int) (a0_4 : Int) (a0_5 : Int) (a0_6 : Bool) (a1 : Int) (a2 : Int) : Option (Int × Int × Int) := if a2 < 0 then (calamusref13_At.j0 k a1 a2 true a0_0 a0_1 a0_2 a0_3 a0_4 a0_5 a0_6) else (if a2 > 10 then (calamusref13_At.j0 k a1 a2 true a0_0 a0_1 a0_2 a0_3 a0_4 a0_5 a0_6) else (if a1 < 0 then (calamusref13_At.j0 k a1 a2 true a0_0 a0_1 a0_2 a0_3 a0_4 a0_5 a0_6) else ((calamusref13_Power.f k 2 a2).bind fun t193 => (calamusref13_At.j0 k a1 a2 (decide (a1 > t193)) a0_0 a0_1 a0_2 a0_3 a0_4 a0_5 a0_6))))
theorem calamusref13_At.mono_l : ∀ k, (∀ y0 y1 y2 y3 y4 y5 y6 y7 y8 y9, LeO (calamusref13_At.j0 k y0 y1 y2 y3 y4 y5 y6 y7 y8 y9) (calamusref13_At.j0 (k + 1) y0 y1 y2 y3 y4 y5 y6 y7 y8 y9))
  | 0 => fun _ _ _ _ _ _ _ _ _ _ r h => by simp [calamusref13_At.j0] at h
  | k + 1 => by
    have ih0 := calamusref13_At.mono_l k
    · intro y0 y1 y2 y3 y4 y5 y6 y7 y8 y9
      unfold calamusref13_At.j0
      repeat' first
      | (with_reducible exact ih0 _ _ _ _ _ _ _ _ _ _)
      | (with_reducible exact calamusref13_Power.mono _ _ _)
      | (with_reducible exact LeO.refl _)
      | (with_reducible exact LeO.none _)
      | (with_reducible refine LeO.ite ?_ ?_)
      | (with_reducible refine LeO.bind ?_ (fun _ => ?_))
      | exact ih0 _ _ _ _ _ _ _ _ _ _
      | exact calamusref13_Power.mono _ _ _
      | exact LeO.none _
      | refine LeO.ite ?_ ?_
      | refine LeO.bind ?_ (fun _ => ?_)
theorem calamusref13_At.mono : ∀ a0 a1 a2 a3 a4 a5 a6 a7 a8 k, LeO (calamusref13_At.f k a0 a1 a2 a3 a4 a5 a6 a7 a8) (calamusref13_At.f (k + 1) a0 a1 a2 a3 a4 a5 a6 a7 a8) := by
  intro a0 a1 a2 a3 a4 a5 a6 a7 a8 k
  have ih0 := calamusref13_At.mono_l k
  unfold calamusref13_At.f
  repeat' first
      | (with_reducible exact ih0 _ _ _ _ _ _ _ _ _ _)
      | (with_reducible exact calamusref13_Power.mono _ _ _)
      | (with_reducible exact LeO.refl _)
      | (with_reducible exact LeO.none _)
      | (with_reducible refine LeO.ite ?_ ?_)
      | (with_reducible refine LeO.bind ?_ (fun _ => ?_))
      | exact ih0 _ _ _ _ _ _ _ _ _ _
      | exact calamusref13_Power.mono _ _ _
      | exact LeO.none _
      | refine LeO.ite ?_ ?_
      | refine LeO.bind ?_ (fun _ => ?_)

/-! ### calamusref12_Down: function 57 -/
def calamusref12_Down.f (a0 : Int) (a1 : Int) : Option (Int) := if a1 = 0 then (none) else (if (Int.tmod a0 a1) < 0 then (some (wrap64 ((wrap64 (Int.tdiv a0 a1)) - 1))) else (some (wrap64 (Int.tdiv a0 a1))))

/-! ### calamusref13_Round: function 35 -/
def calamusref13_Round.f (k : Nat) (a0_0 : Int) (a0_1 : Int) (a0_2 : Int) (a0_3 : Int) (a0_4 : Int) (a0_5 : Int) (a0_6 : Bool) (a1 : Int) (a2 : Int) : Option (Int × Int × Int) := (calamusref13_At.f k a0_0 a0_1 a0_2 a0_3 a0_4 a0_5 a0_6 a1 a2).bind fun bt204 => (if bt204.2.2 = 0 then ((calamusref13_Power.f k 4 a2).bind fun t208 => ((calamusref13_Power.f k 4 a2).bind fun t209 => ((calamusref12_Down.f (wrap64 ((wrap64 (2 * bt204.1)) + t209)) (wrap64 (2 * t208))).bind fun t210 => ((calamusref13_Power.f k 4 a2).bind fun t211 => ((calamusref12_Down.f (wrap64 ((wrap64 (2 * bt204.2.1)) + t211)) (wrap64 (2 * t208))).bind fun t212 => (some (t210, t212, 0))))))) else (some (0, 0, bt204.2.2)))
theorem calamusref13_Round.mono : ∀ a0 a1 a2 a3 a4 a5 a6 a7 a8 k, LeO (calamusref13_Round.f k a0 a1 a2 a3 a4 a5 a6 a7 a8) (calamusref13_Round.f (k + 1) a0 a1 a2 a3 a4 a5 a6 a7 a8) := by
  intro a0 a1 a2 a3 a4 a5 a6 a7 a8 k
  unfold calamusref13_Round.f
  repeat' first
      | (with_reducible exact calamusref13_At.mono _ _ _ _ _ _ _ _ _ _)
      | (with_reducible exact calamusref13_Power.mono _ _ _)
      | (with_reducible exact LeO.refl _)
      | (with_reducible exact LeO.none _)
      | (with_reducible refine LeO.ite ?_ ?_)
      | (with_reducible refine LeO.bind ?_ (fun _ => ?_))
      | exact calamusref13_At.mono _ _ _ _ _ _ _ _ _ _
      | exact calamusref13_Power.mono _ _ _
      | exact LeO.none _
      | refine LeO.ite ?_ ?_
      | refine LeO.bind ?_ (fun _ => ?_)

/-! ### calamuslaw13_QuadAt: function 9 -/
def calamuslaw13_QuadAt.f (k : Nat) (a0_0 : Int) (a0_1 : Int) (a0_2 : Int) (a0_3 : Int) (a0_4 : Int) (a0_5 : Int) (a0_6 : Bool) (a1 : Int) (a2 : Int) : Option (Bool) := (calamuslaw13_alive.f k).bind fun t214 => (if t214 = true then ((quad_At.f k a0_0 a0_1 a0_2 a0_3 a0_4 a0_5 a0_6 a1 a2).bind fun bt215 => ((quad_Round.f k a0_0 a0_1 a0_2 a0_3 a0_4 a0_5 a0_6 a1 a2).bind fun bt219 => ((calamusref13_At.f k a0_0 a0_1 a0_2 a0_3 a0_4 a0_5 a0_6 a1 a2).bind fun bt223 => ((calamusref13_Round.f k a0_0 a0_1 a0_2 a0_3 a0_4 a0_5 a0_6 a1 a2).bind fun bt227 => (if (bt215.1 == bt223.1 && (bt215.2.1 == bt223.2.1)) = true then (if bt215.2.2 = bt223.2.2 then (if (bt219.1 == bt227.1 && (bt219.2.1 == bt227.2.1)) = true then (some (bt219.2.2 == bt227.2.2)) else (none)) else (none)) else (none)))))) else (none))
theorem calamuslaw13_QuadAt.mono : ∀ a0 a1 a2 a3 a4 a5 a6 a7 a8 k, LeO (calamuslaw13_QuadAt.f k a0 a1 a2 a3 a4 a5 a6 a7 a8) (calamuslaw13_QuadAt.f (k + 1) a0 a1 a2 a3 a4 a5 a6 a7 a8) := by
  intro a0 a1 a2 a3 a4 a5 a6 a7 a8 k
  unfold calamuslaw13_QuadAt.f
  repeat' first
      | (with_reducible exact calamuslaw13_alive.mono _)
      | (with_reducible exact calamusref13_At.mono _ _ _ _ _ _ _ _ _ _)
      | (with_reducible exact calamusref13_Round.mono _ _ _ _ _ _ _ _ _ _)
      | (with_reducible exact quad_At.mono _ _ _ _ _ _ _ _ _ _)
      | (with_reducible exact quad_Round.mono _ _ _ _ _ _ _ _ _ _)
      | (with_reducible exact LeO.refl _)
      | (with_reducible exact LeO.none _)
      | (with_reducible refine LeO.ite ?_ ?_)
      | (with_reducible refine LeO.bind ?_ (fun _ => ?_))
      | exact calamuslaw13_alive.mono _
      | exact calamusref13_At.mono _ _ _ _ _ _ _ _ _ _
      | exact calamusref13_Round.mono _ _ _ _ _ _ _ _ _ _
      | exact quad_At.mono _ _ _ _ _ _ _ _ _ _
      | exact quad_Round.mono _ _ _ _ _ _ _ _ _ _
      | exact LeO.none _
      | refine LeO.ite ?_ ?_
      | refine LeO.bind ?_ (fun _ => ?_)

/-! ### calamusref13_near: function 59 -/
def calamusref13_near.f (a0_0 : Int) (a0_1 : Int) : Option (Bool) := if a0_0 ≥ (-1048576) then (if a0_0 ≤ 1048576 then (if a0_1 ≥ (-1048576) then (some (decide (a0_1 ≤ 1048576))) else (some false)) else (some false)) else (some false)

/-! ### calamusref13_Split: function 37 -/
def calamusref13_Split.j0 : Nat → Bool → Int → Int → Int → Int → Int → Int → Bool → Option (Int × Int × Int × Int × Int × Int × Bool × Int × Int × Int × Int × Int × Int × Bool × Int)
  | 0, _, _, _, _, _, _, _, _ => none
  | k + 1, x26, x233000, x233001, x233002, x233003, x233004, x233005, x233006 => if x26 = true then (some (0, 0, 0, 0, 0, 0, false, 0, 0, 0, 0, 0, 0, false, 6)) else (if x233006 = true then ((calamusref13_point.f x233000 x233001 x233002 x233003 x233004 x233005 x233006 1 2 1).bind fun bt245 => ((calamusref13_point.f x233000 x233001 x233002 x233003 x233004 x233005 x233006 4 0 0).bind fun bt248 => ((calamusref13_point.f x233000 x233001 x233002 x233003 x233004 x233005 x233006 2 2 0).bind fun bt250 => ((calamusref13_point.f x233000 x233001 x233002 x233003 x233004 x233005 x233006 0 2 2).bind fun bt252 => ((calamusref13_point.f x233000 x233001 x233002 x233003 x233004 x233005 x233006 0 0 4).bind fun bt254 => (some (bt248.1, bt248.2, bt250.1, bt250.2, bt245.1, bt245.2, true, bt245.1, bt245.2, bt252.1, bt252.2, bt254.1, bt254.2, true, 0))))))) else ((calamusref13_point.f x233000 x233001 0 0 x233004 x233005 x233006 2 0 2).bind fun bt238 => ((calamusref13_point.f x233000 x233001 0 0 x233004 x233005 x233006 4 0 0).bind fun bt241 => ((calamusref13_point.f x233000 x233001 0 0 x233004 x233005 x233006 0 0 4).bind fun bt243 => (some (bt241.1, bt241.2, 0, 0, bt238.1, bt238.2, false, bt238.1, bt238.2, 0, 0, bt243.1, bt243.2, false, 0))))))
def calamusref13_Split.f (k : Nat) (a0_0 : Int) (a0_1 : Int) (a0_2 : Int) (a0_3 : Int) (a0_4 : Int) (a0_5 : Int) (a0_6 : Bool) : Option (Int × Int × Int × Int × Int × Int × Bool × Int × Int × Int × Int × Int × Int × Bool × Int) := (calamusref13_near.f a0_0 a0_1).bind fun t235 => (if t235 = true then ((calamusref13_near.f a0_4 a0_5).bind fun t236 => (if t236 = true then (if a0_6 = true then ((calamusref13_near.f a0_2 a0_3).bind fun t237 => (calamusref13_Split.j0 k (!t237) a0_0 a0_1 a0_2 a0_3 a0_4 a0_5 a0_6)) else (calamusref13_Split.j0 k false a0_0 a0_1 a0_2 a0_3 a0_4 a0_5 a0_6)) else (calamusref13_Split.j0 k true a0_0 a0_1 a0_2 a0_3 a0_4 a0_5 a0_6))) else (calamusref13_Split.j0 k true a0_0 a0_1 a0_2 a0_3 a0_4 a0_5 a0_6))
theorem calamusref13_Split.mono_l : ∀ k, (∀ y0 y1 y2 y3 y4 y5 y6 y7, LeO (calamusref13_Split.j0 k y0 y1 y2 y3 y4 y5 y6 y7) (calamusref13_Split.j0 (k + 1) y0 y1 y2 y3 y4 y5 y6 y7))
  | 0 => fun _ _ _ _ _ _ _ _ r h => by simp [calamusref13_Split.j0] at h
  | k + 1 => by
    have ih0 := calamusref13_Split.mono_l k
    · intro y0 y1 y2 y3 y4 y5 y6 y7
      unfold calamusref13_Split.j0
      repeat' first
      | (with_reducible exact ih0 _ _ _ _ _ _ _ _)
      | (with_reducible exact LeO.refl _)
      | (with_reducible exact LeO.none _)
      | (with_reducible refine LeO.ite ?_ ?_)
      | (with_reducible refine LeO.bind ?_ (fun _ => ?_))
      | exact ih0 _ _ _ _ _ _ _ _
      | exact LeO.none _
      | refine LeO.ite ?_ ?_
      | refine LeO.bind ?_ (fun _ => ?_)
theorem calamusref13_Split.mono : ∀ a0 a1 a2 a3 a4 a5 a6 k, LeO (calamusref13_Split.f k a0 a1 a2 a3 a4 a5 a6) (calamusref13_Split.f (k + 1) a0 a1 a2 a3 a4 a5 a6) := by
  intro a0 a1 a2 a3 a4 a5 a6 k
  have ih0 := calamusref13_Split.mono_l k
  unfold calamusref13_Split.f
  repeat' first
      | (with_reducible exact ih0 _ _ _ _ _ _ _ _)
      | (with_reducible exact LeO.refl _)
      | (with_reducible exact LeO.none _)
      | (with_reducible refine LeO.ite ?_ ?_)
      | (with_reducible refine LeO.bind ?_ (fun _ => ?_))
      | exact ih0 _ _ _ _ _ _ _ _
      | exact LeO.none _
      | refine LeO.ite ?_ ?_
      | refine LeO.bind ?_ (fun _ => ?_)

/-! ### calamuslaw13_QuadSplits: function 10 -/
def calamuslaw13_QuadSplits.f (k : Nat) (a0_0 : Int) (a0_1 : Int) (a0_2 : Int) (a0_3 : Int) (a0_4 : Int) (a0_5 : Int) (a0_6 : Bool) : Option (Bool) := (calamuslaw13_alive.f k).bind fun t257 => (if t257 = true then ((quad_Split.f k a0_0 a0_1 a0_2 a0_3 a0_4 a0_5 a0_6).bind fun bt258 => ((calamusref13_Split.f k a0_0 a0_1 a0_2 a0_3 a0_4 a0_5 a0_6).bind fun bt275 => (if ((bt258.1 == bt275.1 && (bt258.2.1 == bt275.2.1)) && ((bt258.2.2.1 == bt275.2.2.1 && (bt258.2.2.2.1 == bt275.2.2.2.1)) && ((bt258.2.2.2.2.1 == bt275.2.2.2.2.1 && (bt258.2.2.2.2.2.1 == bt275.2.2.2.2.2.1)) && (bt258.2.2.2.2.2.2.1 == bt275.2.2.2.2.2.2.1)))) = true then (if ((bt258.2.2.2.2.2.2.2.1 == bt275.2.2.2.2.2.2.2.1 && (bt258.2.2.2.2.2.2.2.2.1 == bt275.2.2.2.2.2.2.2.2.1)) && ((bt258.2.2.2.2.2.2.2.2.2.1 == bt275.2.2.2.2.2.2.2.2.2.1 && (bt258.2.2.2.2.2.2.2.2.2.2.1 == bt275.2.2.2.2.2.2.2.2.2.2.1)) && ((bt258.2.2.2.2.2.2.2.2.2.2.2.1 == bt275.2.2.2.2.2.2.2.2.2.2.2.1 && (bt258.2.2.2.2.2.2.2.2.2.2.2.2.1 == bt275.2.2.2.2.2.2.2.2.2.2.2.2.1)) && (bt258.2.2.2.2.2.2.2.2.2.2.2.2.2.1 == bt275.2.2.2.2.2.2.2.2.2.2.2.2.2.1)))) = true then (some (bt258.2.2.2.2.2.2.2.2.2.2.2.2.2.2 == bt275.2.2.2.2.2.2.2.2.2.2.2.2.2.2)) else (none)) else (none)))) else (none))
theorem calamuslaw13_QuadSplits.mono : ∀ a0 a1 a2 a3 a4 a5 a6 k, LeO (calamuslaw13_QuadSplits.f k a0 a1 a2 a3 a4 a5 a6) (calamuslaw13_QuadSplits.f (k + 1) a0 a1 a2 a3 a4 a5 a6) := by
  intro a0 a1 a2 a3 a4 a5 a6 k
  unfold calamuslaw13_QuadSplits.f
  repeat' first
      | (with_reducible exact calamuslaw13_alive.mono _)
      | (with_reducible exact calamusref13_Split.mono _ _ _ _ _ _ _ _)
      | (with_reducible exact quad_Split.mono _ _ _ _ _ _ _ _)
      | (with_reducible exact LeO.refl _)
      | (with_reducible exact LeO.none _)
      | (with_reducible refine LeO.ite ?_ ?_)
      | (with_reducible refine LeO.bind ?_ (fun _ => ?_))
      | exact calamuslaw13_alive.mono _
      | exact calamusref13_Split.mono _ _ _ _ _ _ _ _
      | exact quad_Split.mono _ _ _ _ _ _ _ _
      | exact LeO.none _
      | refine LeO.ite ?_ ?_
      | refine LeO.bind ?_ (fun _ => ?_)

/-! ### calamuslaw13_Piece_seg: function 38 (by hand) -/
-- EXT (calamus/calamuslaw13.Piece).seg rounds=0 making=1
def calamuslaw13_Piece_seg.f (a0_0 : Int) (a0_1 : Int) (a0_2 : Int) (a0_3 : Int) (a0_4 : Int) (a0_5 : Int) (a0_6 : Bool) : Option (Int × Int × Int × Int × Int × Int × Bool) := if a0_6 = true then (some ((wrap64 (a0_0)) / 2048, (wrap64 (a0_1)) / 2048, (wrap64 (a0_2)) / 2048, (wrap64 (a0_3)) / 2048, (wrap64 (a0_4)) / 2048, (wrap64 (a0_5)) / 2048, a0_6)) else (some ((wrap64 (a0_0)) / 2048, (wrap64 (a0_1)) / 2048, 0, 0, (wrap64 (a0_4)) / 2048, (wrap64 (a0_5)) / 2048, a0_6))

/-! ### calamuslaw13_QuadHalves: function 11 -/
def calamuslaw13_QuadHalves.f (k : Nat) (a0_0 : Int) (a0_1 : Int) (a0_2 : Int) (a0_3 : Int) (a0_4 : Int) (a0_5 : Int) (a0_6 : Bool) (a1 : Int) (a2 : Int) : Option (Bool) := (calamuslaw13_alive.f k).bind fun t293 => (if t293 = true then (if 0 ≤ (IntKind.u64.wrap (wrap64 (Int.tmod a2 9))) then (if (wrap64 ((shl .i64 1 (IntKind.u64.wrap (wrap64 (Int.tmod a2 9)))) + 1)) = 0 then (none) else ((calamuslaw13_Piece_seg.f a0_0 a0_1 a0_2 a0_3 a0_4 a0_5 a0_6).bind fun bt294 => ((quad_Split.f k bt294.1 bt294.2.1 bt294.2.2.1 bt294.2.2.2.1 bt294.2.2.2.2.1 bt294.2.2.2.2.2.1 bt294.2.2.2.2.2.2).bind fun bt301 => ((quad_At.f k bt301.1 bt301.2.1 bt301.2.2.1 bt301.2.2.2.1 bt301.2.2.2.2.1 bt301.2.2.2.2.2.1 bt301.2.2.2.2.2.2.1 (Int.tmod (wrap64 (a1)) (wrap64 ((shl .i64 1 (IntKind.u64.wrap (wrap64 (Int.tmod a2 9)))) + 1))) (wrap64 (Int.tmod a2 9))).bind fun bt318 => ((quad_At.f k bt301.2.2.2.2.2.2.2.1 bt301.2.2.2.2.2.2.2.2.1 bt301.2.2.2.2.2.2.2.2.2.1 bt301.2.2.2.2.2.2.2.2.2.2.1 bt301.2.2.2.2.2.2.2.2.2.2.2.1 bt301.2.2.2.2.2.2.2.2.2.2.2.2.1 bt301.2.2.2.2.2.2.2.2.2.2.2.2.2.1 (Int.tmod (wrap64 (a1)) (wrap64 ((shl .i64 1 (IntKind.u64.wrap (wrap64 (Int.tmod a2 9)))) + 1))) (wrap64 (Int.tmod a2 9))).bind fun bt322 => ((calamuslaw13_Piece_seg.f a0_0 a0_1 a0_2 a0_3 a0_4 a0_5 a0_6).bind fun bt326 => ((quad_At.f k bt326.1 bt326.2.1 bt326.2.2.1 bt326.2.2.2.1 bt326.2.2.2.2.1 bt326.2.2.2.2.2.1 bt326.2.2.2.2.2.2 (Int.tmod (wrap64 (a1)) (wrap64 ((shl .i64 1 (IntKind.u64.wrap (wrap64 (Int.tmod a2 9)))) + 1))) (wrap64 ((wrap64 (Int.tmod a2 9)) + 1))).bind fun bt333 => ((calamuslaw13_Piece_seg.f a0_0 a0_1 a0_2 a0_3 a0_4 a0_5 a0_6).bind fun bt337 => ((quad_At.f k bt337.1 bt337.2.1 bt337.2.2.1 bt337.2.2.2.1 bt337.2.2.2.2.1 bt337.2.2.2.2.2.1 bt337.2.2.2.2.2.2 (wrap64 ((Int.tmod (wrap64 (a1)) (wrap64 ((shl .i64 1 (IntKind.u64.wrap (wrap64 (Int.tmod a2 9)))) + 1))) + (shl .i64 1 (IntKind.u64.wrap (wrap64 (Int.tmod a2 9)))))) (wrap64 ((wrap64 (Int.tmod a2 9)) + 1))).bind fun bt344 => (if bt301.2.2.2.2.2.2.2.2.2.2.2.2.2.2 = 0 then (if bt318.2.2 = 0 then (if bt322.2.2 = 0 then (if bt333.2.2 = 0 then (if bt344.2.2 = 0 then (if (bt318.1 == bt333.1 && (bt318.2.1 == bt333.2.1)) = true then (some (bt322.1 == bt344.1 && (bt322.2.1 == bt344.2.1))) else (none)) else (none)) else (none)) else (none)) else (none)) else (none))))))))))) else (none)) else (none))
theorem calamuslaw13_QuadHalves.mono : ∀ a0 a1 a2 a3 a4 a5 a6 a7 a8 k, LeO (calamuslaw13_QuadHalves.f k a0 a1 a2 a3 a4 a5 a6 a7 a8) (calamuslaw13_QuadHalves.f (k + 1) a0 a1 a2 a3 a4 a5 a6 a7 a8) := by
  intro a0 a1 a2 a3 a4 a5 a6 a7 a8 k
  unfold calamuslaw13_QuadHalves.f
  repeat' first
      | (with_reducible exact calamuslaw13_alive.mono _)
      | (with_reducible exact quad_At.mono _ _ _ _ _ _ _ _ _ _)
      | (with_reducible exact quad_Split.mono _ _ _ _ _ _ _ _)
      | (with_reducible exact LeO.refl _)
      | (with_reducible exact LeO.none _)
      | (with_reducible refine LeO.ite ?_ ?_)
      | (with_reducible refine LeO.bind ?_ (fun _ => ?_))
      | exact calamuslaw13_alive.mono _
      | exact quad_At.mono _ _ _ _ _ _ _ _ _ _
      | exact quad_Split.mono _ _ _ _ _ _ _ _
      | exact LeO.none _
      | refine LeO.ite ?_ ?_
      | refine LeO.bind ?_ (fun _ => ?_)

/-! ### calamusref13_Abs: function 60 -/
def calamusref13_Abs.f (a0 : Int) : Option (Int) := if a0 < 0 then (some (wrap64 (-a0))) else (some a0)

/-! ### calamuslaw13_apart: function 40 -/
def calamuslaw13_apart.f (k : Nat) (a0_0 : Int) (a0_1 : Int) (a0_2 : Int) (a0_3 : Int) (a0_4 : Int) (a0_5 : Int) (a0_6 : Bool) (a1 : Int) (a2 : Int) : Option (Int) := (quad_At.f k a0_0 a0_1 a0_2 a0_3 a0_4 a0_5 a0_6 a1 a2).bind fun bt349 => ((quad_At.f k a0_0 a0_1 a0_2 a0_3 a0_4 a0_5 a0_6 (wrap64 (a1 + 1)) a2).bind fun bt353 => ((quad_At.f k a0_0 a0_1 a0_2 a0_3 a0_4 a0_5 a0_6 (wrap64 ((wrap64 (2 * a1)) + 1)) (wrap64 (a2 + 1))).bind fun bt357 => ((calamusref13_Abs.f (wrap64 ((wrap64 (bt357.1 - (wrap64 (2 * bt349.1)))) - (wrap64 (2 * bt353.1))))).bind fun t361 => ((calamusref13_Abs.f (wrap64 ((wrap64 (bt357.2.1 - (wrap64 (2 * bt349.2.1)))) - (wrap64 (2 * bt353.2.1))))).bind fun t362 => (some (mx t361 t362))))))
theorem calamuslaw13_apart.mono : ∀ a0 a1 a2 a3 a4 a5 a6 a7 a8 k, LeO (calamuslaw13_apart.f k a0 a1 a2 a3 a4 a5 a6 a7 a8) (calamuslaw13_apart.f (k + 1) a0 a1 a2 a3 a4 a5 a6 a7 a8) := by
  intro a0 a1 a2 a3 a4 a5 a6 a7 a8 k
  unfold calamuslaw13_apart.f
  repeat' first
      | (with_reducible exact quad_At.mono _ _ _ _ _ _ _ _ _ _)
      | (with_reducible exact LeO.refl _)
      | (with_reducible exact LeO.none _)
      | (with_reducible refine LeO.ite ?_ ?_)
      | (with_reducible refine LeO.bind ?_ (fun _ => ?_))
      | exact quad_At.mono _ _ _ _ _ _ _ _ _ _
      | exact LeO.none _
      | refine LeO.ite ?_ ?_
      | refine LeO.bind ?_ (fun _ => ?_)

/-! ### calamuslaw13_QuadNear: function 12 -/
def calamuslaw13_QuadNear.f (k : Nat) (a0_0 : Int) (a0_1 : Int) (a0_2 : Int) (a0_3 : Int) (a0_4 : Int) (a0_5 : Int) (a0_6 : Bool) (a1 : Int) : Option (Bool) := (calamuslaw13_alive.f k).bind fun t364 => (if t364 = true then ((calamuslaw13_Piece_seg.f a0_0 a0_1 a0_2 a0_3 a0_4 a0_5 a0_6).bind fun bt365 => ((quad_Steps.f k bt365.1 bt365.2.1 bt365.2.2.1 bt365.2.2.2.1 bt365.2.2.2.2.1 bt365.2.2.2.2.2.1 bt365.2.2.2.2.2.2).bind fun t373 => (if 0 ≤ (IntKind.u64.wrap (t373)) then (if (shl .i64 1 (IntKind.u64.wrap (t373))) = 0 then (none) else ((calamuslaw13_apart.f k bt365.1 bt365.2.1 bt365.2.2.1 bt365.2.2.2.1 bt365.2.2.2.2.1 bt365.2.2.2.2.2.1 bt365.2.2.2.2.2.2 (Int.tmod (wrap64 (a1)) (shl .i64 1 (IntKind.u64.wrap (t373)))) t373).bind fun t374 => (if 0 ≤ (IntKind.u64.wrap (wrap64 (2 * t373))) then (if t373 = 0 then (some (decide (t374 ≤ (shl .i64 64 (IntKind.u64.wrap (wrap64 (2 * t373))))))) else (if t374 ≤ (shl .i64 64 (IntKind.u64.wrap (wrap64 (2 * t373)))) then ((calamuslaw13_apart.f k bt365.1 bt365.2.1 bt365.2.2.1 bt365.2.2.2.1 bt365.2.2.2.2.1 bt365.2.2.2.2.2.1 bt365.2.2.2.2.2.2 (wrap64 (Int.tdiv (Int.tmod (wrap64 (a1)) (shl .i64 1 (IntKind.u64.wrap (t373)))) 2)) (wrap64 (t373 - 1))).bind fun t375 => (if 0 ≤ (IntKind.u64.wrap (wrap64 ((wrap64 (2 * t373)) - 2))) then (some (decide (t375 > (shl .i64 64 (IntKind.u64.wrap (wrap64 ((wrap64 (2 * t373)) - 2))))))) else (none))) else (none))) else (none)))) else (none)))) else (none))
theorem calamuslaw13_QuadNear.mono : ∀ a0 a1 a2 a3 a4 a5 a6 a7 k, LeO (calamuslaw13_QuadNear.f k a0 a1 a2 a3 a4 a5 a6 a7) (calamuslaw13_QuadNear.f (k + 1) a0 a1 a2 a3 a4 a5 a6 a7) := by
  intro a0 a1 a2 a3 a4 a5 a6 a7 k
  unfold calamuslaw13_QuadNear.f
  repeat' first
      | (with_reducible exact calamuslaw13_alive.mono _)
      | (with_reducible exact calamuslaw13_apart.mono _ _ _ _ _ _ _ _ _ _)
      | (with_reducible exact quad_Steps.mono _ _ _ _ _ _ _ _)
      | (with_reducible exact LeO.refl _)
      | (with_reducible exact LeO.none _)
      | (with_reducible refine LeO.ite ?_ ?_)
      | (with_reducible refine LeO.bind ?_ (fun _ => ?_))
      | exact calamuslaw13_alive.mono _
      | exact calamuslaw13_apart.mono _ _ _ _ _ _ _ _ _ _
      | exact quad_Steps.mono _ _ _ _ _ _ _ _
      | exact LeO.none _
      | refine LeO.ite ?_ ?_
      | refine LeO.bind ?_ (fun _ => ?_)

/-! ### quad_Box: function 41 -/
def quad_Box.f (a0_0 : Int) (a0_1 : Int) (a0_2 : Int) (a0_3 : Int) (a0_4 : Int) (a0_5 : Int) (a0_6 : Bool) : Option (Int × Int × Int × Int) := if a0_6 = true then (some (mn (mn a0_0 a0_2) a0_4, mn (mn a0_1 a0_3) a0_5, mx (mx a0_0 a0_2) a0_4, mx (mx a0_1 a0_3) a0_5)) else (some (mn a0_0 a0_4, mn a0_1 a0_5, mx a0_0 a0_4, mx a0_1 a0_5))

/-! ### calamusref13_Box: function 42 -/
def calamusref13_Box.f (a0_0 : Int) (a0_1 : Int) (a0_2 : Int) (a0_3 : Int) (a0_4 : Int) (a0_5 : Int) (a0_6 : Bool) : Option (Int × Int × Int × Int) := if a0_6 = true then (some (mn (mn a0_0 a0_4) a0_2, mn (mn a0_1 a0_5) a0_3, mx (mx a0_0 a0_4) a0_2, mx (mx a0_1 a0_5) a0_3)) else (some (mn a0_0 a0_4, mn a0_1 a0_5, mx a0_0 a0_4, mx a0_1 a0_5))

/-! ### calamusref13_Bend: function 44 -/
def calamusref13_Bend.j0 : Nat → Bool → Int → Int → Int → Int → Int → Int → Bool → Option (Int)
  | 0, _, _, _, _, _, _, _, _ => none
  | k + 1, x11, x385000, x385001, x385002, x385003, x385004, x385005, x385006 => if x11 = true then (some 0) else ((calamusref13_point.f x385000 x385001 x385002 x385003 x385004 x385005 x385006 1 (-2) 1).bind fun bt386 => ((calamusref13_Abs.f bt386.1).bind fun t389 => ((calamusref13_Abs.f bt386.2).bind fun t390 => (some (mx t389 t390)))))
def calamusref13_Bend.f (k : Nat) (a0_0 : Int) (a0_1 : Int) (a0_2 : Int) (a0_3 : Int) (a0_4 : Int) (a0_5 : Int) (a0_6 : Bool) : Option (Int) := if a0_6 = true then ((calamusref13_Good.f a0_0 a0_1 a0_2 a0_3 a0_4 a0_5 a0_6).bind fun t385 => (calamusref13_Bend.j0 k (!t385) a0_0 a0_1 a0_2 a0_3 a0_4 a0_5 a0_6)) else (calamusref13_Bend.j0 k true a0_0 a0_1 a0_2 a0_3 a0_4 a0_5 a0_6)
theorem calamusref13_Bend.mono_l : ∀ k, (∀ y0 y1 y2 y3 y4 y5 y6 y7, LeO (calamusref13_Bend.j0 k y0 y1 y2 y3 y4 y5 y6 y7) (calamusref13_Bend.j0 (k + 1) y0 y1 y2 y3 y4 y5 y6 y7))
  | 0 => fun _ _ _ _ _ _ _ _ r h => by simp [calamusref13_Bend.j0] at h
  | k + 1 => by
    have ih0 := calamusref13_Bend.mono_l k
    · intro y0 y1 y2 y3 y4 y5 y6 y7
      unfold calamusref13_Bend.j0
      repeat' first
      | (with_reducible exact ih0 _ _ _ _ _ _ _ _)
      | (with_reducible exact LeO.refl _)
      | (with_reducible exact LeO.none _)
      | (with_reducible refine LeO.ite ?_ ?_)
      | (with_reducible refine LeO.bind ?_ (fun _ => ?_))
      | exact ih0 _ _ _ _ _ _ _ _
      | exact LeO.none _
      | refine LeO.ite ?_ ?_
      | refine LeO.bind ?_ (fun _ => ?_)
theorem calamusref13_Bend.mono : ∀ a0 a1 a2 a3 a4 a5 a6 k, LeO (calamusref13_Bend.f k a0 a1 a2 a3 a4 a5 a6) (calamusref13_Bend.f (k + 1) a0 a1 a2 a3 a4 a5 a6) := by
  intro a0 a1 a2 a3 a4 a5 a6 k
  have ih0 := calamusref13_Bend.mono_l k
  unfold calamusref13_Bend.f
  repeat' first
      | (with_reducible exact ih0 _ _ _ _ _ _ _ _)
      | (with_reducible exact LeO.refl _)
      | (with_reducible exact LeO.none _)
      | (with_reducible refine LeO.ite ?_ ?_)
      | (with_reducible refine LeO.bind ?_ (fun _ => ?_))
      | exact ih0 _ _ _ _ _ _ _ _
      | exact LeO.none _
      | refine LeO.ite ?_ ?_
      | refine LeO.bind ?_ (fun _ => ?_)

/-! ### calamusref13_Steps: function 45 -/
def calamusref13_Steps.l0 : Nat → Int → Int → Int → Int → Int → Int → Int → Bool → Option (Int)
  | 0, _, _, _, _, _, _, _, _ => none
  | k + 1, x3, x392000, x392001, x392002, x392003, x392004, x392005, x392006 => (calamusref13_Bend.f k x392000 x392001 x392002 x392003 x392004 x392005 x392006).bind fun t392 => ((calamusref13_Power.f k 4 x3).bind fun t393 => (if t392 > (wrap64 (64 * t393)) then (calamusref13_Steps.l0 k (wrap64 (x3 + 1)) x392000 x392001 x392002 x392003 x392004 x392005 x392006) else (some x3)))
def calamusref13_Steps.f (k : Nat) (a0_0 : Int) (a0_1 : Int) (a0_2 : Int) (a0_3 : Int) (a0_4 : Int) (a0_5 : Int) (a0_6 : Bool) : Option (Int) := calamusref13_Steps.l0 k 0 a0_0 a0_1 a0_2 a0_3 a0_4 a0_5 a0_6
theorem calamusref13_Steps.mono_l : ∀ k, (∀ y0 y1 y2 y3 y4 y5 y6 y7, LeO (calamusref13_Steps.l0 k y0 y1 y2 y3 y4 y5 y6 y7) (calamusref13_Steps.l0 (k + 1) y0 y1 y2 y3 y4 y5 y6 y7))
  | 0 => fun _ _ _ _ _ _ _ _ r h => by simp [calamusref13_Steps.l0] at h
  | k + 1 => by
    have ih0 := calamusref13_Steps.mono_l k
    · intro y0 y1 y2 y3 y4 y5 y6 y7
      unfold calamusref13_Steps.l0
      repeat' first
      | (with_reducible exact ih0 _ _ _ _ _ _ _ _)
      | (with_reducible exact calamusref13_Bend.mono _ _ _ _ _ _ _ _)
      | (with_reducible exact calamusref13_Power.mono _ _ _)
      | (with_reducible exact LeO.refl _)
      | (with_reducible exact LeO.none _)
      | (with_reducible refine LeO.ite ?_ ?_)
      | (with_reducible refine LeO.bind ?_ (fun _ => ?_))
      | exact ih0 _ _ _ _ _ _ _ _
      | exact calamusref13_Bend.mono _ _ _ _ _ _ _ _
      | exact calamusref13_Power.mono _ _ _
      | exact LeO.none _
      | refine LeO.ite ?_ ?_
      | refine LeO.bind ?_ (fun _ => ?_)
theorem calamusref13_Steps.mono : ∀ a0 a1 a2 a3 a4 a5 a6 k, LeO (calamusref13_Steps.f k a0 a1 a2 a3 a4 a5 a6) (calamusref13_Steps.f (k + 1) a0 a1 a2 a3 a4 a5 a6) := by
  intro a0 a1 a2 a3 a4 a5 a6 k
  have ih0 := calamusref13_Steps.mono_l k
  unfold calamusref13_Steps.f
  repeat' first
      | (with_reducible exact ih0 _ _ _ _ _ _ _ _)
      | (with_reducible exact calamusref13_Bend.mono _ _ _ _ _ _ _ _)
      | (with_reducible exact calamusref13_Power.mono _ _ _)
      | (with_reducible exact LeO.refl _)
      | (with_reducible exact LeO.none _)
      | (with_reducible refine LeO.ite ?_ ?_)
      | (with_reducible refine LeO.bind ?_ (fun _ => ?_))
      | exact ih0 _ _ _ _ _ _ _ _
      | exact calamusref13_Bend.mono _ _ _ _ _ _ _ _
      | exact calamusref13_Power.mono _ _ _
      | exact LeO.none _
      | refine LeO.ite ?_ ?_
      | refine LeO.bind ?_ (fun _ => ?_)

/-! ### calamuslaw13_QuadBends: function 13 -/
def calamuslaw13_QuadBends.f (k : Nat) (a0_0 : Int) (a0_1 : Int) (a0_2 : Int) (a0_3 : Int) (a0_4 : Int) (a0_5 : Int) (a0_6 : Bool) : Option (Bool) := (calamuslaw13_alive.f k).bind fun t395 => (if t395 = true then ((quad_Box.f a0_0 a0_1 a0_2 a0_3 a0_4 a0_5 a0_6).bind fun bt396 => ((calamusref13_Box.f a0_0 a0_1 a0_2 a0_3 a0_4 a0_5 a0_6).bind fun bt402 => ((quad_Bend.f k a0_0 a0_1 a0_2 a0_3 a0_4 a0_5 a0_6).bind fun t408 => ((calamusref13_Bend.f k a0_0 a0_1 a0_2 a0_3 a0_4 a0_5 a0_6).bind fun t409 => (if t408 = t409 then ((quad_Steps.f k a0_0 a0_1 a0_2 a0_3 a0_4 a0_5 a0_6).bind fun t410 => ((calamusref13_Steps.f k a0_0 a0_1 a0_2 a0_3 a0_4 a0_5 a0_6).bind fun t411 => (if t410 = t411 then ((quad_Steps.f k a0_0 a0_1 a0_2 a0_3 a0_4 a0_5 a0_6).bind fun t412 => (if t412 ≤ 9 then (if (bt396.1 == bt402.1 && (bt396.2.1 == bt402.2.1)) = true then (some (bt396.2.2.1 == bt402.2.2.1 && (bt396.2.2.2 == bt402.2.2.2))) else (none)) else (none))) else (none)))) else (none)))))) else (none))
theorem calamuslaw13_QuadBends.mono : ∀ a0 a1 a2 a3 a4 a5 a6 k, LeO (calamuslaw13_QuadBends.f k a0 a1 a2 a3 a4 a5 a6) (calamuslaw13_QuadBends.f (k + 1) a0 a1 a2 a3 a4 a5 a6) := by
  intro a0 a1 a2 a3 a4 a5 a6 k
  unfold calamuslaw13_QuadBends.f
  repeat' first
      | (with_reducible exact calamuslaw13_alive.mono _)
      | (with_reducible exact calamusref13_Bend.mono _ _ _ _ _ _ _ _)
      | (with_reducible exact calamusref13_Steps.mono _ _ _ _ _ _ _ _)
      | (with_reducible exact quad_Bend.mono _ _ _ _ _ _ _ _)
      | (with_reducible exact quad_Steps.mono _ _ _ _ _ _ _ _)
      | (with_reducible exact LeO.refl _)
      | (with_reducible exact LeO.none _)
      | (with_reducible refine LeO.ite ?_ ?_)
      | (with_reducible refine LeO.bind ?_ (fun _ => ?_))
      | exact calamuslaw13_alive.mono _
      | exact calamusref13_Bend.mono _ _ _ _ _ _ _ _
      | exact calamusref13_Steps.mono _ _ _ _ _ _ _ _
      | exact quad_Bend.mono _ _ _ _ _ _ _ _
      | exact quad_Steps.mono _ _ _ _ _ _ _ _
      | exact LeO.none _
      | refine LeO.ite ?_ ?_
      | refine LeO.bind ?_ (fun _ => ?_)

/-! ### calamuslaw13_QuadHull: function 14 -/
def calamuslaw13_QuadHull.f (k : Nat) (a0_0 : Int) (a0_1 : Int) (a0_2 : Int) (a0_3 : Int) (a0_4 : Int) (a0_5 : Int) (a0_6 : Bool) (a1 : Int) (a2 : Int) : Option (Bool) := (calamuslaw13_alive.f k).bind fun t414 => (if t414 = true then ((calamuslaw13_Piece_seg.f a0_0 a0_1 a0_2 a0_3 a0_4 a0_5 a0_6).bind fun bt415 => (if 0 ≤ (IntKind.u64.wrap (wrap64 (Int.tmod a2 11))) then (if (wrap64 ((shl .i64 1 (IntKind.u64.wrap (wrap64 (Int.tmod a2 11)))) + 1)) = 0 then (none) else ((quad_At.f k bt415.1 bt415.2.1 bt415.2.2.1 bt415.2.2.2.1 bt415.2.2.2.2.1 bt415.2.2.2.2.2.1 bt415.2.2.2.2.2.2 (Int.tmod (wrap64 (a1)) (wrap64 ((shl .i64 1 (IntKind.u64.wrap (wrap64 (Int.tmod a2 11)))) + 1))) (wrap64 (Int.tmod a2 11))).bind fun bt423 => ((quad_Box.f bt415.1 bt415.2.1 bt415.2.2.1 bt415.2.2.2.1 bt415.2.2.2.2.1 bt415.2.2.2.2.2.1 bt415.2.2.2.2.2.2).bind fun bt427 => (if 0 ≤ (IntKind.u64.wrap (wrap64 (2 * (wrap64 (Int.tmod a2 11))))) then ((quad_At.f k bt415.1 bt415.2.1 bt415.2.2.1 bt415.2.2.2.1 bt415.2.2.2.2.1 bt415.2.2.2.2.2.1 bt415.2.2.2.2.2.2 0 (wrap64 (Int.tmod a2 11))).bind fun bt433 => ((quad_At.f k bt415.1 bt415.2.1 bt415.2.2.1 bt415.2.2.2.1 bt415.2.2.2.2.1 bt415.2.2.2.2.2.1 bt415.2.2.2.2.2.2 (shl .i64 1 (IntKind.u64.wrap (wrap64 (Int.tmod a2 11)))) (wrap64 (Int.tmod a2 11))).bind fun bt437 => ((quad_At.f k bt415.2.2.2.2.1 bt415.2.2.2.2.2.1 bt415.2.2.1 bt415.2.2.2.1 bt415.1 bt415.2.1 bt415.2.2.2.2.2.2 (wrap64 ((shl .i64 1 (IntKind.u64.wrap (wrap64 (Int.tmod a2 11)))) - (Int.tmod (wrap64 (a1)) (wrap64 ((shl .i64 1 (IntKind.u64.wrap (wrap64 (Int.tmod a2 11)))) + 1))))) (wrap64 (Int.tmod a2 11))).bind fun bt442 => ((quad_Round.f k bt415.1 bt415.2.1 bt415.2.2.1 bt415.2.2.2.1 bt415.2.2.2.2.1 bt415.2.2.2.2.2.1 bt415.2.2.2.2.2.2 (Int.tmod (wrap64 (a1)) (wrap64 ((shl .i64 1 (IntKind.u64.wrap (wrap64 (Int.tmod a2 11)))) + 1))) (wrap64 (Int.tmod a2 11))).bind fun bt446 => ((quad_Round.f k bt415.2.2.2.2.1 bt415.2.2.2.2.2.1 bt415.2.2.1 bt415.2.2.2.1 bt415.1 bt415.2.1 bt415.2.2.2.2.2.2 (wrap64 ((shl .i64 1 (IntKind.u64.wrap (wrap64 (Int.tmod a2 11)))) - (Int.tmod (wrap64 (a1)) (wrap64 ((shl .i64 1 (IntKind.u64.wrap (wrap64 (Int.tmod a2 11)))) + 1))))) (wrap64 (Int.tmod a2 11))).bind fun bt450 => (if bt423.2.2 = 0 then (if bt433.2.2 = 0 then (if bt437.2.2 = 0 then (if bt442.2.2 = 0 then (if bt446.2.2 = 0 then (if bt450.2.2 = 0 then (if bt423.1 ≥ (wrap64 ((shl .i64 1 (IntKind.u64.wrap (wrap64 (2 * (wrap64 (Int.tmod a2 11)))))) * bt427.1)) then (if bt423.1 ≤ (wrap64 ((shl .i64 1 (IntKind.u64.wrap (wrap64 (2 * (wrap64 (Int.tmod a2 11)))))) * bt427.2.2.1)) then (if bt423.2.1 ≥ (wrap64 ((shl .i64 1 (IntKind.u64.wrap (wrap64 (2 * (wrap64 (Int.tmod a2 11)))))) * bt427.2.1)) then (if (bt433.1 == (wrap64 ((shl .i64 1 (IntKind.u64.wrap (wrap64 (2 * (wrap64 (Int.tmod a2 11)))))) * bt415.1)) && (bt433.2.1 == (wrap64 ((shl .i64 1 (IntKind.u64.wrap (wrap64 (2 * (wrap64 (Int.tmod a2 11)))))) * bt415.2.1)))) = true then (if bt423.2.1 ≤ (wrap64 ((shl .i64 1 (IntKind.u64.wrap (wrap64 (2 * (wrap64 (Int.tmod a2 11)))))) * bt427.2.2.2)) then (if (bt437.1 == (wrap64 ((shl .i64 1 (IntKind.u64.wrap (wrap64 (2 * (wrap64 (Int.tmod a2 11)))))) * bt415.2.2.2.2.1)) && (bt437.2.1 == (wrap64 ((shl .i64 1 (IntKind.u64.wrap (wrap64 (2 * (wrap64 (Int.tmod a2 11)))))) * bt415.2.2.2.2.2.1)))) = true then (if (bt442.1 == bt423.1 && (bt442.2.1 == bt423.2.1)) = true then (if (bt446.1 == bt450.1 && (bt446.2.1 == bt450.2.1)) = true then (if bt446.1 ≥ bt427.1 then (if bt446.1 ≤ bt427.2.2.1 then (if bt446.2.1 ≥ bt427.2.1 then (some (decide (bt446.2.1 ≤ bt427.2.2.2))) else (none)) else (none)) else (none)) else (none)) else (none)) else (none)) else (none)) else (none)) else (none)) else (none)) else (none)) else (none)) else (none)) else (none)) else (none)) else (none)) else (none))))))) else (none))))) else (none))) else (none))
theorem calamuslaw13_QuadHull.mono : ∀ a0 a1 a2 a3 a4 a5 a6 a7 a8 k, LeO (calamuslaw13_QuadHull.f k a0 a1 a2 a3 a4 a5 a6 a7 a8) (calamuslaw13_QuadHull.f (k + 1) a0 a1 a2 a3 a4 a5 a6 a7 a8) := by
  intro a0 a1 a2 a3 a4 a5 a6 a7 a8 k
  unfold calamuslaw13_QuadHull.f
  repeat' first
      | (with_reducible exact calamuslaw13_alive.mono _)
      | (with_reducible exact quad_At.mono _ _ _ _ _ _ _ _ _ _)
      | (with_reducible exact quad_Round.mono _ _ _ _ _ _ _ _ _ _)
      | (with_reducible exact LeO.refl _)
      | (with_reducible exact LeO.none _)
      | (with_reducible refine LeO.ite ?_ ?_)
      | (with_reducible refine LeO.bind ?_ (fun _ => ?_))
      | exact calamuslaw13_alive.mono _
      | exact quad_At.mono _ _ _ _ _ _ _ _ _ _
      | exact quad_Round.mono _ _ _ _ _ _ _ _ _ _
      | exact LeO.none _
      | refine LeO.ite ?_ ?_
      | refine LeO.bind ?_ (fun _ => ?_)

end Go.Proofs.Ytoghjnmcimniaaa.Q
