/- What Go functions answer, as Lean functions, and that they do: written by wip/xprint.py of this session (the kit's printer with turns, texts by hand among them). -/
import Derived.Test.YtoghjnmcimniaaaO0
import Derived.Test.YtoghjnmcimniaaaOe0
import Derived.Test.YtoghjnmcimniaaaOe1
import Derived.Test.YtoghjnmcimniaaaOe2
namespace Go.Proofs.Ytoghjnmcimniaaa.O
open Go.RowKit Go.Proofs.YtoghjnmcimniaaaW.PrintWords Go.Proofs.YtoghjnmcimniaaaW.PrintLast Go.Proofs.YtoghjnmcimniaaaW.PrintMore
attribute [local go_sem] max2_int min2_int max_two min_two max_three min_three max_four min_four   -- for this text's walks alone
set_option linter.unusedVariables false
set_option linter.unusedSimpArgs false

attribute [local go_sem high] eqA33 eqA37 eqA39
/-! ### outline_half: function 50 -/
def outline_half.f (a0 : Int) (a1 : Int) : Option (Int) := some (wrap64 ((wrap64 ((a0 / 2) + (a1 / 2))) + (Go.bits .and .i64 (Go.bits .and .i64 a0 a1) 1)))

/-! ### outline_Mid: function 20 -/
def outline_Mid.f (a0_0 : Int) (a0_1 : Int) (a1_0 : Int) (a1_1 : Int) : Option (Int × Int) := (outline_half.f a0_0 a1_0).bind fun t104 => ((outline_half.f a0_1 a1_1).bind fun t105 => (some (t104, t105)))

/-! ### outline_start: function 46 -/
def outline_start.l0 : Nat → List (S39) → Int → Int → Option (Int × Bool)
  | 0, _, _, _ => none
  | k + 1, x6, x7, x8 => if x8 < x7 then (if 0 ≤ x8 then (if x8 < (x6.length : Int) then (if (rd_T39 x6 x8).f2 = true then (some (x8, true)) else (outline_start.l0 k x6 x7 (wrap64 (x8 + 1)))) else (none)) else (none)) else (some (0, false))
def outline_start.f (k : Nat) (l0 : List (S39)) : Option (Int × Bool) := outline_start.l0 k l0 (l0.length : Int) 0
theorem outline_start.mono_l : ∀ k, (∀ y0 y1 y2, LeO (outline_start.l0 k y0 y1 y2) (outline_start.l0 (k + 1) y0 y1 y2))
  | 0 => fun _ _ _ r h => by simp [outline_start.l0] at h
  | k + 1 => by
    have ih0 := outline_start.mono_l k
    · intro y0 y1 y2
      unfold outline_start.l0
      repeat' first
      | (with_reducible exact ih0 _ _ _)
      | (with_reducible exact LeO.refl _)
      | (with_reducible exact LeO.none _)
      | (with_reducible refine LeO.ite ?_ ?_)
      | (with_reducible refine LeO.bind ?_ (fun _ => ?_))
      | exact ih0 _ _ _
      | exact LeO.none _
      | refine LeO.ite ?_ ?_
      | refine LeO.bind ?_ (fun _ => ?_)
theorem outline_start.mono : ∀ a0 k, LeO (outline_start.f k a0) (outline_start.f (k + 1) a0) := by
  intro a0 k
  have ih0 := outline_start.mono_l k
  unfold outline_start.f
  repeat' first
      | (with_reducible exact ih0 _ _ _)
      | (with_reducible exact LeO.refl _)
      | (with_reducible exact LeO.none _)
      | (with_reducible refine LeO.ite ?_ ?_)
      | (with_reducible refine LeO.bind ?_ (fun _ => ?_))
      | exact ih0 _ _ _
      | exact LeO.none _
      | refine LeO.ite ?_ ?_
      | refine LeO.bind ?_ (fun _ => ?_)

/-! ### outline_place: function 47 -/
def outline_place.f (a0_0 : Int) (a0_1 : Int) (a0_2 : Bool) : Option (Int × Int) := some (a0_0, a0_1)

/-! ### outline_Segs: function 16 (by hand) -/
-- EXT calamus/outline.Segs rounds=1 making=1
def outline_Segs.put (xs : List S37) (s : S37) : Option (List S37) := if xs.length < 2513169434916 then some (xs ++ [s]) else none
def outline_Segs.to (fx fy : Int) (cv : Bool) (kx ky : Int) (xs : List S37) (x y : Int) : Option (List S37) :=
  if cv = true then if (!fx == x || !fy == y) = true then outline_Segs.put xs ⟨⟨fx, fy⟩, ⟨kx, ky⟩, ⟨x, y⟩, true⟩ else if (!kx == fx || !ky == fy) = true then outline_Segs.put xs ⟨⟨fx, fy⟩, ⟨kx, ky⟩, ⟨x, y⟩, true⟩ else some xs
  else if (!fx == x || !fy == y) = true then outline_Segs.put xs ⟨⟨fx, fy⟩, ⟨0, 0⟩, ⟨x, y⟩, false⟩ else some xs
/-- The boxes that the closure holds, as they stand. -/
def outline_Segs.l0 : Nat → List S39 → Int → Int → Int → Int → Int → Int → Bool → Int → Int → List S37 → Option (List S37)
  | 0, _, _, _, _, _, _, _, _, _, _, _ => none
  | k + 1, l, a, i, bx, yb, fx, fy, cv, kx, ky, xs => if i < (l.length : Int) then (if 0 ≤ Int.tmod (wrap64 (a + i)) (l.length : Int) then (if Int.tmod (wrap64 (a + i)) (l.length : Int) < (l.length : Int) then
      (if (rd_T39 l (Int.tmod (wrap64 (a + i)) (l.length : Int))).f2 = true then
        (if i > 0 then ((outline_Segs.to fx fy cv kx ky xs (rd_T39 l (Int.tmod (wrap64 (a + i)) (l.length : Int))).f0 (rd_T39 l (Int.tmod (wrap64 (a + i)) (l.length : Int))).f1).bind fun xs' => outline_Segs.l0 k l a (wrap64 (i + 1)) bx yb (rd_T39 l (Int.tmod (wrap64 (a + i)) (l.length : Int))).f0 (rd_T39 l (Int.tmod (wrap64 (a + i)) (l.length : Int))).f1 false kx ky xs')
         else outline_Segs.l0 k l a (wrap64 (i + 1)) bx yb fx fy cv kx ky xs)
       else (if cv = true then ((outline_Mid.f kx ky (rd_T39 l (Int.tmod (wrap64 (a + i)) (l.length : Int))).f0 (rd_T39 l (Int.tmod (wrap64 (a + i)) (l.length : Int))).f1).bind fun m => (outline_Segs.to fx fy cv kx ky xs m.1 m.2).bind fun xs' => outline_Segs.l0 k l a (wrap64 (i + 1)) bx yb m.1 m.2 true (rd_T39 l (Int.tmod (wrap64 (a + i)) (l.length : Int))).f0 (rd_T39 l (Int.tmod (wrap64 (a + i)) (l.length : Int))).f1 xs')
         else outline_Segs.l0 k l a (wrap64 (i + 1)) bx yb fx fy true (rd_T39 l (Int.tmod (wrap64 (a + i)) (l.length : Int))).f0 (rd_T39 l (Int.tmod (wrap64 (a + i)) (l.length : Int))).f1 xs)) else none) else none)
    else outline_Segs.to fx fy cv kx ky xs bx yb
def outline_Segs.f (k : Nat) (l0 : List S39) : Option (List S37) := if (l0.length : Int) = 0 then some [] else ((outline_start.f k l0).bind fun s => if 0 ≤ s.1 then (if s.1 < (l0.length : Int) then
    (if s.2 = true then outline_Segs.l0 k l0 s.1 0 (rd_T39 l0 s.1).f0 (rd_T39 l0 s.1).f1 (rd_T39 l0 s.1).f0 (rd_T39 l0 s.1).f1 false 0 0 []
     else (if 0 ≤ wrap64 ((l0.length : Int) - 1) then (if wrap64 ((l0.length : Int) - 1) < (l0.length : Int) then (outline_Mid.f (rd_T39 l0 (wrap64 ((l0.length : Int) - 1))).f0 (rd_T39 l0 (wrap64 ((l0.length : Int) - 1))).f1 (rd_T39 l0 0).f0 (rd_T39 l0 0).f1).bind fun m => outline_Segs.l0 k l0 s.1 0 m.1 m.2 m.1 m.2 false 0 0 [] else none) else none)) else none) else none)
theorem outline_Segs.mono_l : ∀ k, (∀ l a i bx yb fx fy cv kx ky xs, LeO (outline_Segs.l0 k l a i bx yb fx fy cv kx ky xs) (outline_Segs.l0 (k + 1) l a i bx yb fx fy cv kx ky xs))
  | 0 => fun _ _ _ _ _ _ _ _ _ _ _ r h => by simp [outline_Segs.l0] at h
  | k + 1 => by
    have ih0 := outline_Segs.mono_l k
    · intro l a i bx yb fx fy cv kx ky xs
      unfold outline_Segs.l0
      repeat' first
      | (with_reducible exact ih0 _ _ _ _ _ _ _ _ _ _ _)
      | (with_reducible exact LeO.refl _)
      | (with_reducible exact LeO.none _)
      | (with_reducible refine LeO.ite ?_ ?_)
      | (with_reducible refine LeO.bind ?_ (fun _ => ?_))
theorem outline_Segs.mono : ∀ a0 k, LeO (outline_Segs.f k a0) (outline_Segs.f (k + 1) a0) := by
  intro a0 k
  have ih0 := outline_Segs.mono_l k
  have ih1 := outline_start.mono
  unfold outline_Segs.f
  repeat' first
      | (with_reducible exact ih0 _ _ _ _ _ _ _ _ _ _ _)
      | (with_reducible exact ih1 _ _)
      | (with_reducible exact LeO.refl _)
      | (with_reducible exact LeO.none _)
      | (with_reducible refine LeO.ite ?_ ?_)
      | (with_reducible refine LeO.bind ?_ (fun _ => ?_))

/-! ### calamuslaw11_alive: function 15 -/
def calamuslaw11_alive.f (k : Nat)  : Option (Bool) := (outline_Segs.f k (([(⟨0, 0, true⟩ : S39), (⟨4, 0, false⟩ : S39), (⟨4, 4, true⟩ : S39)] : List (S39)))).bind fun t113 => ((outline_Segs.f k (([(⟨0, 0, false⟩ : S39), (⟨4, 0, false⟩ : S39), (⟨4, 4, false⟩ : S39), (⟨0, 4, false⟩ : S39)] : List (S39)))).bind fun t119 => (if (t113.length : Int) = 2 then (if 0 < (t113.length : Int) then (if ((((rd_T37 t113 0).f0.f0) == 0 && (((rd_T37 t113 0).f0.f1) == 0)) && ((((rd_T37 t113 0).f1.f0) == 4 && (((rd_T37 t113 0).f1.f1) == 0)) && ((((rd_T37 t113 0).f2.f0) == 4 && (((rd_T37 t113 0).f2.f1) == 4)) && (((rd_T37 t113 0).f3))))) = true then (if 1 < (t113.length : Int) then (if ((((rd_T37 t113 1).f0.f0) == 4 && (((rd_T37 t113 1).f0.f1) == 4)) && ((((rd_T37 t113 1).f1.f0) == 0 && (((rd_T37 t113 1).f1.f1) == 0)) && ((((rd_T37 t113 1).f2.f0) == 0 && (((rd_T37 t113 1).f2.f1) == 0)) && (!((rd_T37 t113 1).f3))))) = true then (if (t119.length : Int) = 4 then (if 0 < (t119.length : Int) then (if ((((rd_T37 t119 0).f0.f0) == 0 && (((rd_T37 t119 0).f0.f1) == 2)) && ((((rd_T37 t119 0).f1.f0) == 0 && (((rd_T37 t119 0).f1.f1) == 0)) && ((((rd_T37 t119 0).f2.f0) == 2 && (((rd_T37 t119 0).f2.f1) == 0)) && (((rd_T37 t119 0).f3))))) = true then ((outline_Segs.f k (([(⟨9, 0, false⟩ : S39)] : List (S39)))).bind fun t128 => (if (t128.length : Int) = 0 then ((outline_Mid.f 0 0 (-3) 5).bind fun bt131 => (some (bt131.1 == (-2) && (bt131.2 == 2)))) else (none))) else (none)) else (none)) else (none)) else (none)) else (none)) else (none)) else (none)) else (none)))
theorem calamuslaw11_alive.mono : ∀ k, LeO (calamuslaw11_alive.f k ) (calamuslaw11_alive.f (k + 1) ) := by
  intro  k
  unfold calamuslaw11_alive.f
  repeat' first
      | (with_reducible exact outline_Segs.mono _ _)
      | (with_reducible exact LeO.refl _)
      | (with_reducible exact LeO.none _)
      | (with_reducible refine LeO.ite ?_ ?_)
      | (with_reducible refine LeO.bind ?_ (fun _ => ?_))
      | exact outline_Segs.mono _ _
      | exact LeO.none _
      | refine LeO.ite ?_ ?_
      | refine LeO.bind ?_ (fun _ => ?_)

/-! ### calamusref11_Same: function 17 -/
def calamusref11_Same.l0 : Nat → List (S37) → List (S37) → Int → Int → Option (Bool)
  | 0, _, _, _, _ => none
  | k + 1, x0, x1, x12, x13 => if x13 < x12 then (if 0 ≤ x13 then (if x13 < (x0.length : Int) then (if x13 < (x1.length : Int) then (if ((!(((rd_T37 x0 x13).f0.f0) == ((rd_T37 x1 x13).f0.f0)) || (!(((rd_T37 x0 x13).f0.f1) == ((rd_T37 x1 x13).f0.f1)))) || ((!(((rd_T37 x0 x13).f1.f0) == ((rd_T37 x1 x13).f1.f0)) || (!(((rd_T37 x0 x13).f1.f1) == ((rd_T37 x1 x13).f1.f1)))) || ((!(((rd_T37 x0 x13).f2.f0) == ((rd_T37 x1 x13).f2.f0)) || (!(((rd_T37 x0 x13).f2.f1) == ((rd_T37 x1 x13).f2.f1)))) || (!(((rd_T37 x0 x13).f3) == ((rd_T37 x1 x13).f3)))))) = true then (some false) else (calamusref11_Same.l0 k x0 x1 x12 (wrap64 (x13 + 1)))) else (none)) else (none)) else (none)) else (some true)
def calamusref11_Same.f (k : Nat) (l0 : List (S37)) (l1 : List (S37)) : Option (Bool) := if (l0.length : Int) = (l1.length : Int) then (calamusref11_Same.l0 k l0 l1 (l0.length : Int) 0) else (some false)
theorem calamusref11_Same.mono_l : ∀ k, (∀ y0 y1 y2 y3, LeO (calamusref11_Same.l0 k y0 y1 y2 y3) (calamusref11_Same.l0 (k + 1) y0 y1 y2 y3))
  | 0 => fun _ _ _ _ r h => by simp [calamusref11_Same.l0] at h
  | k + 1 => by
    have ih0 := calamusref11_Same.mono_l k
    · intro y0 y1 y2 y3
      unfold calamusref11_Same.l0
      repeat' first
      | (with_reducible exact ih0 _ _ _ _)
      | (with_reducible exact LeO.refl _)
      | (with_reducible exact LeO.none _)
      | (with_reducible refine LeO.ite ?_ ?_)
      | (with_reducible refine LeO.bind ?_ (fun _ => ?_))
      | exact ih0 _ _ _ _
      | exact LeO.none _
      | refine LeO.ite ?_ ?_
      | refine LeO.bind ?_ (fun _ => ?_)
theorem calamusref11_Same.mono : ∀ a0 a1 k, LeO (calamusref11_Same.f k a0 a1) (calamusref11_Same.f (k + 1) a0 a1) := by
  intro a0 a1 k
  have ih0 := calamusref11_Same.mono_l k
  unfold calamusref11_Same.f
  repeat' first
      | (with_reducible exact ih0 _ _ _ _)
      | (with_reducible exact LeO.refl _)
      | (with_reducible exact LeO.none _)
      | (with_reducible refine LeO.ite ?_ ?_)
      | (with_reducible refine LeO.bind ?_ (fun _ => ?_))
      | exact ih0 _ _ _ _
      | exact LeO.none _
      | refine LeO.ite ?_ ?_
      | refine LeO.bind ?_ (fun _ => ?_)

/-! ### calamusref11_half: function 51 -/
def calamusref11_half.f (a0 : Int) (a1 : Int) : Option (Int) := if (wrap64 ((wrap64 ((wrap64 (a0 - (wrap64 (2 * (wrap64 (Int.tdiv a0 2)))))) + a1)) - (wrap64 (2 * (wrap64 (Int.tdiv a1 2)))))) = 2 then (some (wrap64 ((wrap64 ((wrap64 (Int.tdiv a0 2)) + (wrap64 (Int.tdiv a1 2)))) + 1))) else (if (wrap64 ((wrap64 ((wrap64 (a0 - (wrap64 (2 * (wrap64 (Int.tdiv a0 2)))))) + a1)) - (wrap64 (2 * (wrap64 (Int.tdiv a1 2)))))) < 0 then (some (wrap64 ((wrap64 ((wrap64 (Int.tdiv a0 2)) + (wrap64 (Int.tdiv a1 2)))) - 1))) else (some (wrap64 ((wrap64 (Int.tdiv a0 2)) + (wrap64 (Int.tdiv a1 2))))))

/-! ### calamusref11_Mid: function 21 -/
def calamusref11_Mid.f (a0_0 : Int) (a0_1 : Int) (a1_0 : Int) (a1_1 : Int) : Option (Int × Int) := (calamusref11_half.f a0_0 a1_0).bind fun t138 => ((calamusref11_half.f a0_1 a1_1).bind fun t139 => (some (t138, t139)))

/-! ### calamusref11_at: function 49 -/
def calamusref11_at.f (a0_0 : Int) (a0_1 : Int) (a0_2 : Bool) : Option (Int × Int) := some (a0_0, a0_1)

/-! ### calamusref11_Segs: function 18 -/
mutual
def calamusref11_Segs.l0 : Nat → List (S39) → Int → Option ((List (S37)))
  | 0, _, _ => none
  | k + 1, x0, x3 => if x3 < (x0.length : Int) then (if 0 ≤ x3 then (calamusref11_Segs.j1 k x0 x3 (!((rd_T39 x0 x3).f2))) else (none)) else (calamusref11_Segs.j1 k x0 x3 false)
def calamusref11_Segs.j1 : Nat → List (S39) → Int → Bool → Option ((List (S37)))
  | 0, _, _, _ => none
  | k + 1, x0, x3, x27 => if x27 = true then (calamusref11_Segs.l0 k x0 (wrap64 (x3 + 1))) else (if x3 = (x0.length : Int) then (if 0 ≤ (wrap64 ((x0.length : Int) - 1)) then (if (wrap64 ((x0.length : Int) - 1)) < (x0.length : Int) then ((calamusref11_at.f ((rd_T39 x0 (wrap64 ((x0.length : Int) - 1))).f0) ((rd_T39 x0 (wrap64 ((x0.length : Int) - 1))).f1) ((rd_T39 x0 (wrap64 ((x0.length : Int) - 1))).f2)).bind fun bt144 => (if 0 < (x0.length : Int) then ((calamusref11_at.f ((rd_T39 x0 0).f0) ((rd_T39 x0 0).f1) ((rd_T39 x0 0).f2)).bind fun bt147 => ((calamusref11_Mid.f bt144.1 bt144.2 bt147.1 bt147.2).bind fun bt149 => (if ([] : List (S39)).length < 5864062014805 then (calamusref11_Segs.j2 k x0 0 (([] : List (S39)) ++ [(⟨bt149.1, bt149.2, true⟩ : S39)])) else (none)))) else (none))) else (none)) else (none)) else (calamusref11_Segs.j2 k x0 x3 ([] : List (S39))))
def calamusref11_Segs.j2 : Nat → List (S39) → Int → List (S39) → Option ((List (S37)))
  | 0, _, _, _ => none
  | k + 1, x0, x3, x4 => calamusref11_Segs.l1 k x0 x3 x4 0
def calamusref11_Segs.l1 : Nat → List (S39) → Int → List (S39) → Int → Option ((List (S37)))
  | 0, _, _, _, _ => none
  | k + 1, x0, x3, x4, x6 => if x6 < (x0.length : Int) then (if (x0.length : Int) = 0 then (none) else (if 0 ≤ (Int.tmod (wrap64 (x3 + x6)) (x0.length : Int)) then (if (Int.tmod (wrap64 (x3 + x6)) (x0.length : Int)) < (x0.length : Int) then (if (x4.length : Int) > 0 then (if ((rd_T39 x0 (Int.tmod (wrap64 (x3 + x6)) (x0.length : Int))).f2 = true) then (calamusref11_Segs.j4 k x0 x3 x4 x6 false ((rd_T39 x0 (Int.tmod (wrap64 (x3 + x6)) (x0.length : Int))).f0) ((rd_T39 x0 (Int.tmod (wrap64 (x3 + x6)) (x0.length : Int))).f1) ((rd_T39 x0 (Int.tmod (wrap64 (x3 + x6)) (x0.length : Int))).f2)) else (if 0 ≤ (wrap64 ((x4.length : Int) - 1)) then (if (wrap64 ((x4.length : Int) - 1)) < (x4.length : Int) then (calamusref11_Segs.j4 k x0 x3 x4 x6 (!((rd_T39 x4 (wrap64 ((x4.length : Int) - 1))).f2)) ((rd_T39 x0 (Int.tmod (wrap64 (x3 + x6)) (x0.length : Int))).f0) ((rd_T39 x0 (Int.tmod (wrap64 (x3 + x6)) (x0.length : Int))).f1) ((rd_T39 x0 (Int.tmod (wrap64 (x3 + x6)) (x0.length : Int))).f2)) else (none)) else (none))) else (calamusref11_Segs.j4 k x0 x3 x4 x6 false ((rd_T39 x0 (Int.tmod (wrap64 (x3 + x6)) (x0.length : Int))).f0) ((rd_T39 x0 (Int.tmod (wrap64 (x3 + x6)) (x0.length : Int))).f1) ((rd_T39 x0 (Int.tmod (wrap64 (x3 + x6)) (x0.length : Int))).f2))) else (none)) else (none))) else (if 0 < (x4.length : Int) then (if x4.length < 5864062014805 then ((some (x4 ++ [(⟨(rd_T39 x4 0).f0, (rd_T39 x4 0).f1, (rd_T39 x4 0).f2⟩ : S39)] : List (S39))).bind fun y176 => (if 0 < (y176.length : Int) then ((calamusref11_at.f ((rd_T39 y176 0).f0) ((rd_T39 y176 0).f1) ((rd_T39 y176 0).f2)).bind fun bt180 => (calamusref11_Segs.l2 k y176 ([] : List (S37)) 1 bt180.1 bt180.2)) else (none))) else (none)) else (none))
def calamusref11_Segs.j4 : Nat → List (S39) → Int → List (S39) → Int → Bool → Int → Int → Bool → Option ((List (S37)))
  | 0, _, _, _, _, _, _, _, _ => none
  | k + 1, x0, x3, x4, x6, x86, x157000, x157001, x157002 => if x86 = true then (if 0 ≤ (wrap64 ((x4.length : Int) - 1)) then (if (wrap64 ((x4.length : Int) - 1)) < (x4.length : Int) then ((calamusref11_at.f ((rd_T39 x4 (wrap64 ((x4.length : Int) - 1))).f0) ((rd_T39 x4 (wrap64 ((x4.length : Int) - 1))).f1) ((rd_T39 x4 (wrap64 ((x4.length : Int) - 1))).f2)).bind fun bt159 => ((calamusref11_at.f x157000 x157001 x157002).bind fun bt161 => ((calamusref11_Mid.f bt159.1 bt159.2 bt161.1 bt161.2).bind fun bt163 => (if x4.length < 5864062014805 then ((some (x4 ++ [(⟨bt163.1, bt163.2, true⟩ : S39)] : List (S39))).bind fun y166 => (if y166.length < 5864062014805 then (calamusref11_Segs.l1 k x0 x3 (y166 ++ [(⟨x157000, x157001, x157002⟩ : S39)]) (wrap64 (x6 + 1))) else (none))) else (none))))) else (none)) else (none)) else (if x4.length < 5864062014805 then (calamusref11_Segs.l1 k x0 x3 (x4 ++ [(⟨x157000, x157001, x157002⟩ : S39)]) (wrap64 (x6 + 1))) else (none))
def calamusref11_Segs.l2 : Nat → List (S39) → List (S37) → Int → Int → Int → Option ((List (S37)))
  | 0, _, _, _, _, _ => none
  | k + 1, x4, x9, x11, x183000, x183001 => if x11 < (x4.length : Int) then (if 0 ≤ x11 then (if ((rd_T39 x4 x11).f2 = true) then (calamusref11_Segs.j6 k x4 x9 x11 x183000 x183001 0 0 0 0 false) else ((calamusref11_at.f ((rd_T39 x4 x11).f0) ((rd_T39 x4 x11).f1) ((rd_T39 x4 x11).f2)).bind fun bt186 => (calamusref11_Segs.j6 k x4 x9 (wrap64 (x11 + 1)) x183000 x183001 bt186.1 bt186.2 0 0 true))) else (none)) else (some x9)
def calamusref11_Segs.j6 : Nat → List (S39) → List (S37) → Int → Int → Int → Int → Int → Int → Int → Bool → Option ((List (S37)))
  | 0, _, _, _, _, _, _, _, _, _, _ => none
  | k + 1, x4, x9, x11, x184000, x184001, x184002, x184003, x184004, x184005, x184006 => if 0 ≤ x11 then (if x11 < (x4.length : Int) then ((calamusref11_at.f ((rd_T39 x4 x11).f0) ((rd_T39 x4 x11).f1) ((rd_T39 x4 x11).f2)).bind fun bt189 => (if (!(x184000 == bt189.1) || (!(x184001 == bt189.2))) = true then (calamusref11_Segs.j7 k x4 x9 x11 true bt189.1 bt189.2 x184000 x184001 x184002 x184003 bt189.1 bt189.2 x184006) else (if x184006 = true then (calamusref11_Segs.j7 k x4 x9 x11 (!(x184002 == x184000) || (!(x184003 == x184001))) bt189.1 bt189.2 x184000 x184001 x184002 x184003 bt189.1 bt189.2 x184006) else (calamusref11_Segs.j7 k x4 x9 x11 false bt189.1 bt189.2 x184000 x184001 x184002 x184003 bt189.1 bt189.2 x184006)))) else (none)) else (none)
def calamusref11_Segs.j7 : Nat → List (S39) → List (S37) → Int → Bool → Int → Int → Int → Int → Int → Int → Int → Int → Bool → Option ((List (S37)))
  | 0, _, _, _, _, _, _, _, _, _, _, _, _, _ => none
  | k + 1, x4, x9, x11, x165, x183000, x183001, x184000, x184001, x184002, x184003, x184004, x184005, x184006 => if x165 = true then (if x9.length < 2513169434916 then (calamusref11_Segs.l2 k x4 (x9 ++ [(⟨(⟨x184000, x184001⟩ : S33), (⟨x184002, x184003⟩ : S33), (⟨x184004, x184005⟩ : S33), x184006⟩ : S37)]) (wrap64 (x11 + 1)) x183000 x183001) else (none)) else (calamusref11_Segs.l2 k x4 x9 (wrap64 (x11 + 1)) x183000 x183001)
end
def calamusref11_Segs.f (k : Nat) (l0 : List (S39)) : Option ((List (S37))) := if (l0.length : Int) = 0 then (some ([] : List (S37))) else (calamusref11_Segs.l0 k l0 0)
theorem calamusref11_Segs.mono_l : ∀ k, (∀ y0 y1, LeO (calamusref11_Segs.l0 k y0 y1) (calamusref11_Segs.l0 (k + 1) y0 y1)) ∧ (∀ y0 y1 y2, LeO (calamusref11_Segs.j1 k y0 y1 y2) (calamusref11_Segs.j1 (k + 1) y0 y1 y2)) ∧ (∀ y0 y1 y2, LeO (calamusref11_Segs.j2 k y0 y1 y2) (calamusref11_Segs.j2 (k + 1) y0 y1 y2)) ∧ (∀ y0 y1 y2 y3, LeO (calamusref11_Segs.l1 k y0 y1 y2 y3) (calamusref11_Segs.l1 (k + 1) y0 y1 y2 y3)) ∧ (∀ y0 y1 y2 y3 y4 y5 y6 y7, LeO (calamusref11_Segs.j4 k y0 y1 y2 y3 y4 y5 y6 y7) (calamusref11_Segs.j4 (k + 1) y0 y1 y2 y3 y4 y5 y6 y7)) ∧ (∀ y0 y1 y2 y3 y4, LeO (calamusref11_Segs.l2 k y0 y1 y2 y3 y4) (calamusref11_Segs.l2 (k + 1) y0 y1 y2 y3 y4)) ∧ (∀ y0 y1 y2 y3 y4 y5 y6 y7 y8 y9, LeO (calamusref11_Segs.j6 k y0 y1 y2 y3 y4 y5 y6 y7 y8 y9) (calamusref11_Segs.j6 (k + 1) y0 y1 y2 y3 y4 y5 y6 y7 y8 y9)) ∧ (∀ y0 y1 y2 y3 y4 y5 y6 y7 y8 y9 y10 y11 y12, LeO (calamusref11_Segs.j7 k y0 y1 y2 y3 y4 y5 y6 y7 y8 y9 y10 y11 y12) (calamusref11_Segs.j7 (k + 1) y0 y1 y2 y3 y4 y5 y6 y7 y8 y9 y10 y11 y12))
  | 0 => ⟨fun _ _ r h => by simp [calamusref11_Segs.l0] at h, fun _ _ _ r h => by simp [calamusref11_Segs.j1] at h, fun _ _ _ r h => by simp [calamusref11_Segs.j2] at h, fun _ _ _ _ r h => by simp [calamusref11_Segs.l1] at h, fun _ _ _ _ _ _ _ _ r h => by simp [calamusref11_Segs.j4] at h, fun _ _ _ _ _ r h => by simp [calamusref11_Segs.l2] at h, fun _ _ _ _ _ _ _ _ _ _ r h => by simp [calamusref11_Segs.j6] at h, fun _ _ _ _ _ _ _ _ _ _ _ _ _ r h => by simp [calamusref11_Segs.j7] at h⟩
  | k + 1 => by
    obtain ⟨ih0, ih1, ih2, ih3, ih4, ih5, ih6, ih7⟩ := calamusref11_Segs.mono_l k
    refine ⟨?_, ?_, ?_, ?_, ?_, ?_, ?_, ?_⟩
    · intro y0 y1
      unfold calamusref11_Segs.l0
      repeat' first
      | (with_reducible exact ih0 _ _)
      | (with_reducible exact ih1 _ _ _)
      | (with_reducible exact ih2 _ _ _)
      | (with_reducible exact ih3 _ _ _ _)
      | (with_reducible exact ih4 _ _ _ _ _ _ _ _)
      | (with_reducible exact ih5 _ _ _ _ _)
      | (with_reducible exact ih6 _ _ _ _ _ _ _ _ _ _)
      | (with_reducible exact ih7 _ _ _ _ _ _ _ _ _ _ _ _ _)
      | (with_reducible exact LeO.refl _)
      | (with_reducible exact LeO.none _)
      | (with_reducible refine LeO.ite ?_ ?_)
      | (with_reducible refine LeO.bind ?_ (fun _ => ?_))
      | exact ih0 _ _
      | exact ih1 _ _ _
      | exact ih2 _ _ _
      | exact ih3 _ _ _ _
      | exact ih4 _ _ _ _ _ _ _ _
      | exact ih5 _ _ _ _ _
      | exact ih6 _ _ _ _ _ _ _ _ _ _
      | exact ih7 _ _ _ _ _ _ _ _ _ _ _ _ _
      | exact LeO.none _
      | refine LeO.ite ?_ ?_
      | refine LeO.bind ?_ (fun _ => ?_)
    · intro y0 y1 y2
      unfold calamusref11_Segs.j1
      repeat' first
      | (with_reducible exact ih0 _ _)
      | (with_reducible exact ih1 _ _ _)
      | (with_reducible exact ih2 _ _ _)
      | (with_reducible exact ih3 _ _ _ _)
      | (with_reducible exact ih4 _ _ _ _ _ _ _ _)
      | (with_reducible exact ih5 _ _ _ _ _)
      | (with_reducible exact ih6 _ _ _ _ _ _ _ _ _ _)
      | (with_reducible exact ih7 _ _ _ _ _ _ _ _ _ _ _ _ _)
      | (with_reducible exact LeO.refl _)
      | (with_reducible exact LeO.none _)
      | (with_reducible refine LeO.ite ?_ ?_)
      | (with_reducible refine LeO.bind ?_ (fun _ => ?_))
      | exact ih0 _ _
      | exact ih1 _ _ _
      | exact ih2 _ _ _
      | exact ih3 _ _ _ _
      | exact ih4 _ _ _ _ _ _ _ _
      | exact ih5 _ _ _ _ _
      | exact ih6 _ _ _ _ _ _ _ _ _ _
      | exact ih7 _ _ _ _ _ _ _ _ _ _ _ _ _
      | exact LeO.none _
      | refine LeO.ite ?_ ?_
      | refine LeO.bind ?_ (fun _ => ?_)
    · intro y0 y1 y2
      unfold calamusref11_Segs.j2
      repeat' first
      | (with_reducible exact ih0 _ _)
      | (with_reducible exact ih1 _ _ _)
      | (with_reducible exact ih2 _ _ _)
      | (with_reducible exact ih3 _ _ _ _)
      | (with_reducible exact ih4 _ _ _ _ _ _ _ _)
      | (with_reducible exact ih5 _ _ _ _ _)
      | (with_reducible exact ih6 _ _ _ _ _ _ _ _ _ _)
      | (with_reducible exact ih7 _ _ _ _ _ _ _ _ _ _ _ _ _)
      | (with_reducible exact LeO.refl _)
      | (with_reducible exact LeO.none _)
      | (with_reducible refine LeO.ite ?_ ?_)
      | (with_reducible refine LeO.bind ?_ (fun _ => ?_))
      | exact ih0 _ _
      | exact ih1 _ _ _
      | exact ih2 _ _ _
      | exact ih3 _ _ _ _
      | exact ih4 _ _ _ _ _ _ _ _
      | exact ih5 _ _ _ _ _
      | exact ih6 _ _ _ _ _ _ _ _ _ _
      | exact ih7 _ _ _ _ _ _ _ _ _ _ _ _ _
      | exact LeO.none _
      | refine LeO.ite ?_ ?_
      | refine LeO.bind ?_ (fun _ => ?_)
    · intro y0 y1 y2 y3
      unfold calamusref11_Segs.l1
      repeat' first
      | (with_reducible exact ih0 _ _)
      | (with_reducible exact ih1 _ _ _)
      | (with_reducible exact ih2 _ _ _)
      | (with_reducible exact ih3 _ _ _ _)
      | (with_reducible exact ih4 _ _ _ _ _ _ _ _)
      | (with_reducible exact ih5 _ _ _ _ _)
      | (with_reducible exact ih6 _ _ _ _ _ _ _ _ _ _)
      | (with_reducible exact ih7 _ _ _ _ _ _ _ _ _ _ _ _ _)
      | (with_reducible exact LeO.refl _)
      | (with_reducible exact LeO.none _)
      | (with_reducible refine LeO.ite ?_ ?_)
      | (with_reducible refine LeO.bind ?_ (fun _ => ?_))
      | exact ih0 _ _
      | exact ih1 _ _ _
      | exact ih2 _ _ _
      | exact ih3 _ _ _ _
      | exact ih4 _ _ _ _ _ _ _ _
      | exact ih5 _ _ _ _ _
      | exact ih6 _ _ _ _ _ _ _ _ _ _
      | exact ih7 _ _ _ _ _ _ _ _ _ _ _ _ _
      | exact LeO.none _
      | refine LeO.ite ?_ ?_
      | refine LeO.bind ?_ (fun _ => ?_)
    · intro y0 y1 y2 y3 y4 y5 y6 y7
      unfold calamusref11_Segs.j4
      repeat' first
      | (with_reducible exact ih0 _ _)
      | (with_reducible exact ih1 _ _ _)
      | (with_reducible exact ih2 _ _ _)
      | (with_reducible exact ih3 _ _ _ _)
      | (with_reducible exact ih4 _ _ _ _ _ _ _ _)
      | (with_reducible exact ih5 _ _ _ _ _)
      | (with_reducible exact ih6 _ _ _ _ _ _ _ _ _ _)
      | (with_reducible exact ih7 _ _ _ _ _ _ _ _ _ _ _ _ _)
      | (with_reducible exact LeO.refl _)
      | (with_reducible exact LeO.none _)
      | (with_reducible refine LeO.ite ?_ ?_)
      | (with_reducible refine LeO.bind ?_ (fun _ => ?_))
      | exact ih0 _ _
      | exact ih1 _ _ _
      | exact ih2 _ _ _
      | exact ih3 _ _ _ _
      | exact ih4 _ _ _ _ _ _ _ _
      | exact ih5 _ _ _ _ _
      | exact ih6 _ _ _ _ _ _ _ _ _ _
      | exact ih7 _ _ _ _ _ _ _ _ _ _ _ _ _
      | exact LeO.none _
      | refine LeO.ite ?_ ?_
      | refine LeO.bind ?_ (fun _ => ?_)
    · intro y0 y1 y2 y3 y4
      unfold calamusref11_Segs.l2
      repeat' first
      | (with_reducible exact ih0 _ _)
      | (with_reducible exact ih1 _ _ _)
      | (with_reducible exact ih2 _ _ _)
      | (with_reducible exact ih3 _ _ _ _)
      | (with_reducible exact ih4 _ _ _ _ _ _ _ _)
      | (with_reducible exact ih5 _ _ _ _ _)
      | (with_reducible exact ih6 _ _ _ _ _ _ _ _ _ _)
      | (with_reducible exact ih7 _ _ _ _ _ _ _ _ _ _ _ _ _)
      | (with_reducible exact LeO.refl _)
      | (with_reducible exact LeO.none _)
      | (with_reducible refine LeO.ite ?_ ?_)
      | (with_reducible refine LeO.bind ?_ (fun _ => ?_))
      | exact ih0 _ _
      | exact ih1 _ _ _
      | exact ih2 _ _ _
      | exact ih3 _ _ _ _
      | exact ih4 _ _ _ _ _ _ _ _
      | exact ih5 _ _ _ _ _
      | exact ih6 _ _ _ _ _ _ _ _ _ _
      | exact ih7 _ _ _ _ _ _ _ _ _ _ _ _ _
      | exact LeO.none _
      | refine LeO.ite ?_ ?_
      | refine LeO.bind ?_ (fun _ => ?_)
    · intro y0 y1 y2 y3 y4 y5 y6 y7 y8 y9
      unfold calamusref11_Segs.j6
      repeat' first
      | (with_reducible exact ih0 _ _)
      | (with_reducible exact ih1 _ _ _)
      | (with_reducible exact ih2 _ _ _)
      | (with_reducible exact ih3 _ _ _ _)
      | (with_reducible exact ih4 _ _ _ _ _ _ _ _)
      | (with_reducible exact ih5 _ _ _ _ _)
      | (with_reducible exact ih6 _ _ _ _ _ _ _ _ _ _)
      | (with_reducible exact ih7 _ _ _ _ _ _ _ _ _ _ _ _ _)
      | (with_reducible exact LeO.refl _)
      | (with_reducible exact LeO.none _)
      | (with_reducible refine LeO.ite ?_ ?_)
      | (with_reducible refine LeO.bind ?_ (fun _ => ?_))
      | exact ih0 _ _
      | exact ih1 _ _ _
      | exact ih2 _ _ _
      | exact ih3 _ _ _ _
      | exact ih4 _ _ _ _ _ _ _ _
      | exact ih5 _ _ _ _ _
      | exact ih6 _ _ _ _ _ _ _ _ _ _
      | exact ih7 _ _ _ _ _ _ _ _ _ _ _ _ _
      | exact LeO.none _
      | refine LeO.ite ?_ ?_
      | refine LeO.bind ?_ (fun _ => ?_)
    · intro y0 y1 y2 y3 y4 y5 y6 y7 y8 y9 y10 y11 y12
      unfold calamusref11_Segs.j7
      repeat' first
      | (with_reducible exact ih0 _ _)
      | (with_reducible exact ih1 _ _ _)
      | (with_reducible exact ih2 _ _ _)
      | (with_reducible exact ih3 _ _ _ _)
      | (with_reducible exact ih4 _ _ _ _ _ _ _ _)
      | (with_reducible exact ih5 _ _ _ _ _)
      | (with_reducible exact ih6 _ _ _ _ _ _ _ _ _ _)
      | (with_reducible exact ih7 _ _ _ _ _ _ _ _ _ _ _ _ _)
      | (with_reducible exact LeO.refl _)
      | (with_reducible exact LeO.none _)
      | (with_reducible refine LeO.ite ?_ ?_)
      | (with_reducible refine LeO.bind ?_ (fun _ => ?_))
      | exact ih0 _ _
      | exact ih1 _ _ _
      | exact ih2 _ _ _
      | exact ih3 _ _ _ _
      | exact ih4 _ _ _ _ _ _ _ _
      | exact ih5 _ _ _ _ _
      | exact ih6 _ _ _ _ _ _ _ _ _ _
      | exact ih7 _ _ _ _ _ _ _ _ _ _ _ _ _
      | exact LeO.none _
      | refine LeO.ite ?_ ?_
      | refine LeO.bind ?_ (fun _ => ?_)
theorem calamusref11_Segs.mono : ∀ a0 k, LeO (calamusref11_Segs.f k a0) (calamusref11_Segs.f (k + 1) a0) := by
  intro a0 k
  obtain ⟨ih0, ih1, ih2, ih3, ih4, ih5, ih6, ih7⟩ := calamusref11_Segs.mono_l k
  unfold calamusref11_Segs.f
  repeat' first
      | (with_reducible exact ih0 _ _)
      | (with_reducible exact ih1 _ _ _)
      | (with_reducible exact ih2 _ _ _)
      | (with_reducible exact ih3 _ _ _ _)
      | (with_reducible exact ih4 _ _ _ _ _ _ _ _)
      | (with_reducible exact ih5 _ _ _ _ _)
      | (with_reducible exact ih6 _ _ _ _ _ _ _ _ _ _)
      | (with_reducible exact ih7 _ _ _ _ _ _ _ _ _ _ _ _ _)
      | (with_reducible exact LeO.refl _)
      | (with_reducible exact LeO.none _)
      | (with_reducible refine LeO.ite ?_ ?_)
      | (with_reducible refine LeO.bind ?_ (fun _ => ?_))
      | exact ih0 _ _
      | exact ih1 _ _ _
      | exact ih2 _ _ _
      | exact ih3 _ _ _ _
      | exact ih4 _ _ _ _ _ _ _ _
      | exact ih5 _ _ _ _ _
      | exact ih6 _ _ _ _ _ _ _ _ _ _
      | exact ih7 _ _ _ _ _ _ _ _ _ _ _ _ _
      | exact LeO.none _
      | refine LeO.ite ?_ ?_
      | refine LeO.bind ?_ (fun _ => ?_)

/-! ### calamusref07_Same: function 19 -/
mutual
def calamusref07_Same.l0 : Nat → List (List (S39)) → List (List (S39)) → Int → Int → Option (Bool)
  | 0, _, _, _, _ => none
  | k + 1, x0, x1, x13, x14 => if x14 < x13 then (if 0 ≤ x14 then (if x14 < (x0.length : Int) then (if x14 < (x1.length : Int) then (if ((rd_L5 x0 x14).length : Int) = ((rd_L5 x1 x14).length : Int) then (calamusref07_Same.l1 k x0 x1 x14 x13 x14 ((rd_L5 x0 x14).length : Int) 0) else (some false)) else (none)) else (none)) else (none)) else (some true)
def calamusref07_Same.l1 : Nat → List (List (S39)) → List (List (S39)) → Int → Int → Int → Int → Int → Option (Bool)
  | 0, _, _, _, _, _, _, _ => none
  | k + 1, x0, x1, x5, x13, x14, x32, x33 => if x33 < x32 then (if 0 ≤ x5 then (if x5 < (x0.length : Int) then (if 0 ≤ x33 then (if x33 < ((rd_L5 x0 x5).length : Int) then (if x5 < (x1.length : Int) then (if x33 < ((rd_L5 x1 x5).length : Int) then (if (!(((rd_T39 (rd_L5 x0 x5) x33).f0) == ((rd_T39 (rd_L5 x1 x5) x33).f0)) || (!(((rd_T39 (rd_L5 x0 x5) x33).f1) == ((rd_T39 (rd_L5 x1 x5) x33).f1)) || (!(((rd_T39 (rd_L5 x0 x5) x33).f2) == ((rd_T39 (rd_L5 x1 x5) x33).f2))))) = true then (some false) else (calamusref07_Same.l1 k x0 x1 x5 x13 x14 x32 (wrap64 (x33 + 1)))) else (none)) else (none)) else (none)) else (none)) else (none)) else (none)) else (calamusref07_Same.l0 k x0 x1 x13 (wrap64 (x14 + 1)))
end
def calamusref07_Same.f (k : Nat) (l0 : List (List (S39))) (l1 : List (List (S39))) : Option (Bool) := if (l0.length : Int) = (l1.length : Int) then (calamusref07_Same.l0 k l0 l1 (l0.length : Int) 0) else (some false)
theorem calamusref07_Same.mono_l : ∀ k, (∀ y0 y1 y2 y3, LeO (calamusref07_Same.l0 k y0 y1 y2 y3) (calamusref07_Same.l0 (k + 1) y0 y1 y2 y3)) ∧ (∀ y0 y1 y2 y3 y4 y5 y6, LeO (calamusref07_Same.l1 k y0 y1 y2 y3 y4 y5 y6) (calamusref07_Same.l1 (k + 1) y0 y1 y2 y3 y4 y5 y6))
  | 0 => ⟨fun _ _ _ _ r h => by simp [calamusref07_Same.l0] at h, fun _ _ _ _ _ _ _ r h => by simp [calamusref07_Same.l1] at h⟩
  | k + 1 => by
    obtain ⟨ih0, ih1⟩ := calamusref07_Same.mono_l k
    refine ⟨?_, ?_⟩
    · intro y0 y1 y2 y3
      unfold calamusref07_Same.l0
      repeat' first
      | (with_reducible exact ih0 _ _ _ _)
      | (with_reducible exact ih1 _ _ _ _ _ _ _)
      | (with_reducible exact LeO.refl _)
      | (with_reducible exact LeO.none _)
      | (with_reducible refine LeO.ite ?_ ?_)
      | (with_reducible refine LeO.bind ?_ (fun _ => ?_))
      | exact ih0 _ _ _ _
      | exact ih1 _ _ _ _ _ _ _
      | exact LeO.none _
      | refine LeO.ite ?_ ?_
      | refine LeO.bind ?_ (fun _ => ?_)
    · intro y0 y1 y2 y3 y4 y5 y6
      unfold calamusref07_Same.l1
      repeat' first
      | (with_reducible exact ih0 _ _ _ _)
      | (with_reducible exact ih1 _ _ _ _ _ _ _)
      | (with_reducible exact LeO.refl _)
      | (with_reducible exact LeO.none _)
      | (with_reducible refine LeO.ite ?_ ?_)
      | (with_reducible refine LeO.bind ?_ (fun _ => ?_))
      | exact ih0 _ _ _ _
      | exact ih1 _ _ _ _ _ _ _
      | exact LeO.none _
      | refine LeO.ite ?_ ?_
      | refine LeO.bind ?_ (fun _ => ?_)
theorem calamusref07_Same.mono : ∀ a0 a1 k, LeO (calamusref07_Same.f k a0 a1) (calamusref07_Same.f (k + 1) a0 a1) := by
  intro a0 a1 k
  obtain ⟨ih0, ih1⟩ := calamusref07_Same.mono_l k
  unfold calamusref07_Same.f
  repeat' first
      | (with_reducible exact ih0 _ _ _ _)
      | (with_reducible exact ih1 _ _ _ _ _ _ _)
      | (with_reducible exact LeO.refl _)
      | (with_reducible exact LeO.none _)
      | (with_reducible refine LeO.ite ?_ ?_)
      | (with_reducible refine LeO.bind ?_ (fun _ => ?_))
      | exact ih0 _ _ _ _
      | exact ih1 _ _ _ _ _ _ _
      | exact LeO.none _
      | refine LeO.ite ?_ ?_
      | refine LeO.bind ?_ (fun _ => ?_)

/-! ### calamuslaw11_OutlineSegs: function 3 -/
def calamuslaw11_OutlineSegs.f (k : Nat) (l0 : List (S39)) : Option (Bool) := (calamuslaw11_alive.f k).bind fun t201 => (if t201 = true then (if (l0.length : Int) > 5000 then (some true) else ((some (([] : List (S39)) : List (S39))).bind fun y202 => (if y202.length + l0.length < 5864062014805 then ((some (y202 ++ l0 : List (S39))).bind fun y205 => ((outline_Segs.f k y205).bind fun t208 => ((calamusref11_Segs.f k l0).bind fun t211 => ((calamusref11_Same.f k t208 t211).bind fun t214 => (if t214 = true then ((calamusref07_Same.f k (([y205] : List (List (S39)))) (([l0] : List (List (S39))))).bind fun t221 => (some t221)) else (none)))))) else (none)))) else (none))
theorem calamuslaw11_OutlineSegs.mono : ∀ a0 k, LeO (calamuslaw11_OutlineSegs.f k a0) (calamuslaw11_OutlineSegs.f (k + 1) a0) := by
  intro a0 k
  unfold calamuslaw11_OutlineSegs.f
  repeat' first
      | (with_reducible exact calamuslaw11_alive.mono _)
      | (with_reducible exact calamusref07_Same.mono _ _ _)
      | (with_reducible exact calamusref11_Same.mono _ _ _)
      | (with_reducible exact calamusref11_Segs.mono _ _)
      | (with_reducible exact outline_Segs.mono _ _)
      | (with_reducible exact LeO.refl _)
      | (with_reducible exact LeO.none _)
      | (with_reducible refine LeO.ite ?_ ?_)
      | (with_reducible refine LeO.bind ?_ (fun _ => ?_))
      | exact calamuslaw11_alive.mono _
      | exact calamusref07_Same.mono _ _ _
      | exact calamusref11_Same.mono _ _ _
      | exact calamusref11_Segs.mono _ _
      | exact outline_Segs.mono _ _
      | exact LeO.none _
      | refine LeO.ite ?_ ?_
      | refine LeO.bind ?_ (fun _ => ?_)

/-! ### calamuslaw11_OutlineMids: function 4 -/
def calamuslaw11_OutlineMids.f (k : Nat) (a0_0 : Int) (a0_1 : Int) (a1_0 : Int) (a1_1 : Int) : Option (Bool) := (calamuslaw11_alive.f k).bind fun t224 => (if t224 = true then ((outline_Mid.f a0_0 a0_1 a1_0 a1_1).bind fun bt225 => ((calamusref11_Mid.f a0_0 a0_1 a1_0 a1_1).bind fun bt228 => (if (bt225.1 == bt228.1 && (bt225.2 == bt228.2)) = true then ((outline_Mid.f a1_0 a1_1 a0_0 a0_1).bind fun bt230 => (if (bt225.1 == bt230.1 && (bt225.2 == bt230.2)) = true then (if bt225.1 ≥ (mn a0_0 a1_0) then (if bt225.1 ≤ (mx a0_0 a1_0) then (if bt225.2 ≥ (mn a0_1 a1_1) then (some (decide (bt225.2 ≤ (mx a0_1 a1_1)))) else (none)) else (none)) else (none)) else (none))) else (none)))) else (none))
theorem calamuslaw11_OutlineMids.mono : ∀ a0 a1 a2 a3 k, LeO (calamuslaw11_OutlineMids.f k a0 a1 a2 a3) (calamuslaw11_OutlineMids.f (k + 1) a0 a1 a2 a3) := by
  intro a0 a1 a2 a3 k
  unfold calamuslaw11_OutlineMids.f
  repeat' first
      | (with_reducible exact calamuslaw11_alive.mono _)
      | (with_reducible exact LeO.refl _)
      | (with_reducible exact LeO.none _)
      | (with_reducible refine LeO.ite ?_ ?_)
      | (with_reducible refine LeO.bind ?_ (fun _ => ?_))
      | exact calamuslaw11_alive.mono _
      | exact LeO.none _
      | refine LeO.ite ?_ ?_
      | refine LeO.bind ?_ (fun _ => ?_)

/-! ### calamuslaw11_OutlineCloses: function 5 -/
mutual
def calamuslaw11_OutlineCloses.l0 : Nat → List (S39) → List (S37) → List (S37) → Int → Int → Option (Bool)
  | 0, _, _, _, _, _ => none
  | k + 1, x0, x3, x18, x19, x20 => if x20 < x19 then (if 0 ≤ x20 then (if x20 < (x18.length : Int) then (if (x3.length : Int) = 0 then (none) else (if 0 ≤ (Int.tmod (wrap64 (x20 + 1)) (x3.length : Int)) then (if (Int.tmod (wrap64 (x20 + 1)) (x3.length : Int)) < (x3.length : Int) then (if (!(((rd_T37 x18 x20).f2.f0) == ((rd_T37 x3 (Int.tmod (wrap64 (x20 + 1)) (x3.length : Int))).f0.f0)) || (!(((rd_T37 x18 x20).f2.f1) == ((rd_T37 x3 (Int.tmod (wrap64 (x20 + 1)) (x3.length : Int))).f0.f1)))) = true then (none) else (if (((rd_T37 x18 x20).f0.f0) == ((rd_T37 x18 x20).f2.f0) && (((rd_T37 x18 x20).f0.f1) == ((rd_T37 x18 x20).f2.f1))) = true then (if ((rd_T37 x18 x20).f3 = true) then (if (((rd_T37 x18 x20).f1.f0) == ((rd_T37 x18 x20).f0.f0) && (((rd_T37 x18 x20).f1.f1) == ((rd_T37 x18 x20).f0.f1))) = true then (none) else (calamuslaw11_OutlineCloses.l0 k x0 x3 x18 x19 (wrap64 (x20 + 1)))) else (none)) else (if ((rd_T37 x18 x20).f3 = true) then (calamuslaw11_OutlineCloses.l0 k x0 x3 x18 x19 (wrap64 (x20 + 1))) else (if (!(((rd_T37 x18 x20).f1.f0) == 0) || (!(((rd_T37 x18 x20).f1.f1) == 0))) = true then (none) else (calamuslaw11_OutlineCloses.l0 k x0 x3 x18 x19 (wrap64 (x20 + 1))))))) else (none)) else (none))) else (none)) else (none)) else (calamuslaw11_OutlineCloses.l1 k x3 x0 (x0.length : Int) 0)
def calamuslaw11_OutlineCloses.l1 : Nat → List (S37) → List (S39) → Int → Int → Option (Bool)
  | 0, _, _, _, _ => none
  | k + 1, x3, x68, x69, x70 => if x70 < x69 then (if 0 ≤ x70 then (if x70 < (x68.length : Int) then (if ((rd_T39 x68 x70).f2 = true) then (calamuslaw11_OutlineCloses.j2 k x3 ((x3.length : Int) == 0) x68 x69 x70 ((rd_T39 x68 x70).f0) ((rd_T39 x68 x70).f1) ((rd_T39 x68 x70).f2)) else (calamuslaw11_OutlineCloses.j2 k x3 true x68 x69 x70 ((rd_T39 x68 x70).f0) ((rd_T39 x68 x70).f1) ((rd_T39 x68 x70).f2))) else (none)) else (none)) else (some true)
def calamuslaw11_OutlineCloses.j2 : Nat → List (S37) → Bool → List (S39) → Int → Int → Int → Int → Bool → Option (Bool)
  | 0, _, _, _, _, _, _, _, _ => none
  | k + 1, x3, x8, x68, x69, x70, x241000, x241001, x241002 => calamuslaw11_OutlineCloses.l2 k x3 x8 x68 x69 x70 x3 (x3.length : Int) 0 x241000 x241001 x241002
def calamuslaw11_OutlineCloses.l2 : Nat → List (S37) → Bool → List (S39) → Int → Int → List (S37) → Int → Int → Int → Int → Bool → Option (Bool)
  | 0, _, _, _, _, _, _, _, _, _, _, _ => none
  | k + 1, x3, x8, x68, x69, x70, x82, x83, x84, x241000, x241001, x241002 => if x84 < x83 then (if 0 ≤ x84 then (if x84 < (x82.length : Int) then (if x8 = true then (calamuslaw11_OutlineCloses.l2 k x3 true x68 x69 x70 x82 x83 (wrap64 (x84 + 1)) x241000 x241001 x241002) else (calamuslaw11_OutlineCloses.l2 k x3 (((rd_T37 x82 x84).f0.f0) == x241000 && (((rd_T37 x82 x84).f0.f1) == x241001)) x68 x69 x70 x82 x83 (wrap64 (x84 + 1)) x241000 x241001 x241002)) else (none)) else (none)) else (if x8 = true then (calamuslaw11_OutlineCloses.l1 k x3 x68 x69 (wrap64 (x70 + 1))) else (none))
end
def calamuslaw11_OutlineCloses.f (k : Nat) (l0 : List (S39)) : Option (Bool) := (calamuslaw11_alive.f k).bind fun t232 => (if t232 = true then (if (l0.length : Int) > 300 then (some true) else ((outline_Segs.f k l0).bind fun t233 => (calamuslaw11_OutlineCloses.l0 k l0 t233 t233 (t233.length : Int) 0))) else (none))
theorem calamuslaw11_OutlineCloses.mono_l : ∀ k, (∀ y0 y1 y2 y3 y4, LeO (calamuslaw11_OutlineCloses.l0 k y0 y1 y2 y3 y4) (calamuslaw11_OutlineCloses.l0 (k + 1) y0 y1 y2 y3 y4)) ∧ (∀ y0 y1 y2 y3, LeO (calamuslaw11_OutlineCloses.l1 k y0 y1 y2 y3) (calamuslaw11_OutlineCloses.l1 (k + 1) y0 y1 y2 y3)) ∧ (∀ y0 y1 y2 y3 y4 y5 y6 y7, LeO (calamuslaw11_OutlineCloses.j2 k y0 y1 y2 y3 y4 y5 y6 y7) (calamuslaw11_OutlineCloses.j2 (k + 1) y0 y1 y2 y3 y4 y5 y6 y7)) ∧ (∀ y0 y1 y2 y3 y4 y5 y6 y7 y8 y9 y10, LeO (calamuslaw11_OutlineCloses.l2 k y0 y1 y2 y3 y4 y5 y6 y7 y8 y9 y10) (calamuslaw11_OutlineCloses.l2 (k + 1) y0 y1 y2 y3 y4 y5 y6 y7 y8 y9 y10))
  | 0 => ⟨fun _ _ _ _ _ r h => by simp [calamuslaw11_OutlineCloses.l0] at h, fun _ _ _ _ r h => by simp [calamuslaw11_OutlineCloses.l1] at h, fun _ _ _ _ _ _ _ _ r h => by simp [calamuslaw11_OutlineCloses.j2] at h, fun _ _ _ _ _ _ _ _ _ _ _ r h => by simp [calamuslaw11_OutlineCloses.l2] at h⟩
  | k + 1 => by
    obtain ⟨ih0, ih1, ih2, ih3⟩ := calamuslaw11_OutlineCloses.mono_l k
    refine ⟨?_, ?_, ?_, ?_⟩
    · intro y0 y1 y2 y3 y4
      unfold calamuslaw11_OutlineCloses.l0
      repeat' first
      | (with_reducible exact ih0 _ _ _ _ _)
      | (with_reducible exact ih1 _ _ _ _)
      | (with_reducible exact ih2 _ _ _ _ _ _ _ _)
      | (with_reducible exact ih3 _ _ _ _ _ _ _ _ _ _ _)
      | (with_reducible exact calamuslaw11_alive.mono _)
      | (with_reducible exact outline_Segs.mono _ _)
      | (with_reducible exact LeO.refl _)
      | (with_reducible exact LeO.none _)
      | (with_reducible refine LeO.ite ?_ ?_)
      | (with_reducible refine LeO.bind ?_ (fun _ => ?_))
      | exact ih0 _ _ _ _ _
      | exact ih1 _ _ _ _
      | exact ih2 _ _ _ _ _ _ _ _
      | exact ih3 _ _ _ _ _ _ _ _ _ _ _
      | exact calamuslaw11_alive.mono _
      | exact outline_Segs.mono _ _
      | exact LeO.none _
      | refine LeO.ite ?_ ?_
      | refine LeO.bind ?_ (fun _ => ?_)
    · intro y0 y1 y2 y3
      unfold calamuslaw11_OutlineCloses.l1
      repeat' first
      | (with_reducible exact ih0 _ _ _ _ _)
      | (with_reducible exact ih1 _ _ _ _)
      | (with_reducible exact ih2 _ _ _ _ _ _ _ _)
      | (with_reducible exact ih3 _ _ _ _ _ _ _ _ _ _ _)
      | (with_reducible exact calamuslaw11_alive.mono _)
      | (with_reducible exact outline_Segs.mono _ _)
      | (with_reducible exact LeO.refl _)
      | (with_reducible exact LeO.none _)
      | (with_reducible refine LeO.ite ?_ ?_)
      | (with_reducible refine LeO.bind ?_ (fun _ => ?_))
      | exact ih0 _ _ _ _ _
      | exact ih1 _ _ _ _
      | exact ih2 _ _ _ _ _ _ _ _
      | exact ih3 _ _ _ _ _ _ _ _ _ _ _
      | exact calamuslaw11_alive.mono _
      | exact outline_Segs.mono _ _
      | exact LeO.none _
      | refine LeO.ite ?_ ?_
      | refine LeO.bind ?_ (fun _ => ?_)
    · intro y0 y1 y2 y3 y4 y5 y6 y7
      unfold calamuslaw11_OutlineCloses.j2
      repeat' first
      | (with_reducible exact ih0 _ _ _ _ _)
      | (with_reducible exact ih1 _ _ _ _)
      | (with_reducible exact ih2 _ _ _ _ _ _ _ _)
      | (with_reducible exact ih3 _ _ _ _ _ _ _ _ _ _ _)
      | (with_reducible exact calamuslaw11_alive.mono _)
      | (with_reducible exact outline_Segs.mono _ _)
      | (with_reducible exact LeO.refl _)
      | (with_reducible exact LeO.none _)
      | (with_reducible refine LeO.ite ?_ ?_)
      | (with_reducible refine LeO.bind ?_ (fun _ => ?_))
      | exact ih0 _ _ _ _ _
      | exact ih1 _ _ _ _
      | exact ih2 _ _ _ _ _ _ _ _
      | exact ih3 _ _ _ _ _ _ _ _ _ _ _
      | exact calamuslaw11_alive.mono _
      | exact outline_Segs.mono _ _
      | exact LeO.none _
      | refine LeO.ite ?_ ?_
      | refine LeO.bind ?_ (fun _ => ?_)
    · intro y0 y1 y2 y3 y4 y5 y6 y7 y8 y9 y10
      unfold calamuslaw11_OutlineCloses.l2
      repeat' first
      | (with_reducible exact ih0 _ _ _ _ _)
      | (with_reducible exact ih1 _ _ _ _)
      | (with_reducible exact ih2 _ _ _ _ _ _ _ _)
      | (with_reducible exact ih3 _ _ _ _ _ _ _ _ _ _ _)
      | (with_reducible exact calamuslaw11_alive.mono _)
      | (with_reducible exact outline_Segs.mono _ _)
      | (with_reducible exact LeO.refl _)
      | (with_reducible exact LeO.none _)
      | (with_reducible refine LeO.ite ?_ ?_)
      | (with_reducible refine LeO.bind ?_ (fun _ => ?_))
      | exact ih0 _ _ _ _ _
      | exact ih1 _ _ _ _
      | exact ih2 _ _ _ _ _ _ _ _
      | exact ih3 _ _ _ _ _ _ _ _ _ _ _
      | exact calamuslaw11_alive.mono _
      | exact outline_Segs.mono _ _
      | exact LeO.none _
      | refine LeO.ite ?_ ?_
      | refine LeO.bind ?_ (fun _ => ?_)
theorem calamuslaw11_OutlineCloses.mono : ∀ a0 k, LeO (calamuslaw11_OutlineCloses.f k a0) (calamuslaw11_OutlineCloses.f (k + 1) a0) := by
  intro a0 k
  obtain ⟨ih0, ih1, ih2, ih3⟩ := calamuslaw11_OutlineCloses.mono_l k
  unfold calamuslaw11_OutlineCloses.f
  repeat' first
      | (with_reducible exact ih0 _ _ _ _ _)
      | (with_reducible exact ih1 _ _ _ _)
      | (with_reducible exact ih2 _ _ _ _ _ _ _ _)
      | (with_reducible exact ih3 _ _ _ _ _ _ _ _ _ _ _)
      | (with_reducible exact calamuslaw11_alive.mono _)
      | (with_reducible exact outline_Segs.mono _ _)
      | (with_reducible exact LeO.refl _)
      | (with_reducible exact LeO.none _)
      | (with_reducible refine LeO.ite ?_ ?_)
      | (with_reducible refine LeO.bind ?_ (fun _ => ?_))
      | exact ih0 _ _ _ _ _
      | exact ih1 _ _ _ _
      | exact ih2 _ _ _ _ _ _ _ _
      | exact ih3 _ _ _ _ _ _ _ _ _ _ _
      | exact calamuslaw11_alive.mono _
      | exact outline_Segs.mono _ _
      | exact LeO.none _
      | refine LeO.ite ?_ ?_
      | refine LeO.bind ?_ (fun _ => ?_)

/-! ### calamusref11_Alike: function 22 -/
mutual
def calamusref11_Alike.l0 : Nat → List (S37) → Bool → List Bool → List (S37) → Int → Int → Option (Bool)
  | 0, _, _, _, _, _, _ => none
  | k + 1, x1, x2, x7, x21, x22, x23 => if x23 < x22 then (if 0 ≤ x23 then (if x23 < (x21.length : Int) then (calamusref11_Alike.l1 k x1 x2 x7 false x21 x22 x23 x1 (x1.length : Int) 0 ((rd_T37 x21 x23).f0.f0) ((rd_T37 x21 x23).f0.f1) ((rd_T37 x21 x23).f1.f0) ((rd_T37 x21 x23).f1.f1) ((rd_T37 x21 x23).f2.f0) ((rd_T37 x21 x23).f2.f1) ((rd_T37 x21 x23).f3)) else (none)) else (none)) else (some true)
def calamusref11_Alike.l1 : Nat → List (S37) → Bool → List Bool → Bool → List (S37) → Int → Int → List (S37) → Int → Int → Int → Int → Int → Int → Int → Int → Bool → Option (Bool)
  | 0, _, _, _, _, _, _, _, _, _, _, _, _, _, _, _, _, _ => none
  | k + 1, x1, x2, x7, x10, x21, x22, x23, x27, x28, x29, x248000, x248001, x248002, x248003, x248004, x248005, x248006 => if x29 < x28 then (if 0 ≤ x29 then (if x29 < (x27.length : Int) then (if x2 = true then (if x10 = true then (calamusref11_Alike.l1 k x1 x2 x7 x10 x21 x22 x23 x27 x28 (wrap64 (x29 + 1)) x248000 x248001 x248002 x248003 x248004 x248005 x248006) else (if x29 < (x7.length : Int) then (if rdOf false x7 x29 = true then (calamusref11_Alike.l1 k x1 x2 x7 x10 x21 x22 x23 x27 x28 (wrap64 (x29 + 1)) x248000 x248001 x248002 x248003 x248004 x248005 x248006) else (if ((x248000 == ((rd_T37 x27 x29).f2.f0) && (x248001 == ((rd_T37 x27 x29).f2.f1))) && ((x248002 == ((rd_T37 x27 x29).f1.f0) && (x248003 == ((rd_T37 x27 x29).f1.f1))) && ((x248004 == ((rd_T37 x27 x29).f0.f0) && (x248005 == ((rd_T37 x27 x29).f0.f1))) && (x248006 == ((rd_T37 x27 x29).f3))))) = true then (calamusref11_Alike.l1 k x1 x2 (x7.set (x29 : Int).toNat true) true x21 x22 x23 x27 x28 (wrap64 (x29 + 1)) x248000 x248001 x248002 x248003 x248004 x248005 x248006) else (calamusref11_Alike.l1 k x1 x2 x7 x10 x21 x22 x23 x27 x28 (wrap64 (x29 + 1)) x248000 x248001 x248002 x248003 x248004 x248005 x248006))) else (none))) else (if x10 = true then (calamusref11_Alike.l1 k x1 x2 x7 x10 x21 x22 x23 x27 x28 (wrap64 (x29 + 1)) x248000 x248001 x248002 x248003 x248004 x248005 x248006) else (if x29 < (x7.length : Int) then (if rdOf false x7 x29 = true then (calamusref11_Alike.l1 k x1 x2 x7 x10 x21 x22 x23 x27 x28 (wrap64 (x29 + 1)) x248000 x248001 x248002 x248003 x248004 x248005 x248006) else (if ((x248000 == ((rd_T37 x27 x29).f0.f0) && (x248001 == ((rd_T37 x27 x29).f0.f1))) && ((x248002 == ((rd_T37 x27 x29).f1.f0) && (x248003 == ((rd_T37 x27 x29).f1.f1))) && ((x248004 == ((rd_T37 x27 x29).f2.f0) && (x248005 == ((rd_T37 x27 x29).f2.f1))) && (x248006 == ((rd_T37 x27 x29).f3))))) = true then (calamusref11_Alike.l1 k x1 x2 (x7.set (x29 : Int).toNat true) true x21 x22 x23 x27 x28 (wrap64 (x29 + 1)) x248000 x248001 x248002 x248003 x248004 x248005 x248006) else (calamusref11_Alike.l1 k x1 x2 x7 x10 x21 x22 x23 x27 x28 (wrap64 (x29 + 1)) x248000 x248001 x248002 x248003 x248004 x248005 x248006))) else (none)))) else (none)) else (none)) else (if x10 = true then (calamusref11_Alike.l0 k x1 x2 x7 x21 x22 (wrap64 (x23 + 1))) else (some false))
end
def calamusref11_Alike.f (k : Nat) (l0 : List (S37)) (l1 : List (S37)) (a2 : Bool) : Option (Bool) := if (l0.length : Int) = (l1.length : Int) then (if 0 ≤ (l1.length : Int) then (if ((l1.length : Int) : Int).toNat ≤ 281474976710656 then (calamusref11_Alike.l0 k l1 a2 (List.replicate ((l1.length : Int) : Int).toNat false) l0 (l0.length : Int) 0) else (none)) else (none)) else (some false)
theorem calamusref11_Alike.mono_l : ∀ k, (∀ y0 y1 y2 y3 y4 y5, LeO (calamusref11_Alike.l0 k y0 y1 y2 y3 y4 y5) (calamusref11_Alike.l0 (k + 1) y0 y1 y2 y3 y4 y5)) ∧ (∀ y0 y1 y2 y3 y4 y5 y6 y7 y8 y9 y10 y11 y12 y13 y14 y15 y16, LeO (calamusref11_Alike.l1 k y0 y1 y2 y3 y4 y5 y6 y7 y8 y9 y10 y11 y12 y13 y14 y15 y16) (calamusref11_Alike.l1 (k + 1) y0 y1 y2 y3 y4 y5 y6 y7 y8 y9 y10 y11 y12 y13 y14 y15 y16))
  | 0 => ⟨fun _ _ _ _ _ _ r h => by simp [calamusref11_Alike.l0] at h, fun _ _ _ _ _ _ _ _ _ _ _ _ _ _ _ _ _ r h => by simp [calamusref11_Alike.l1] at h⟩
  | k + 1 => by
    obtain ⟨ih0, ih1⟩ := calamusref11_Alike.mono_l k
    refine ⟨?_, ?_⟩
    · intro y0 y1 y2 y3 y4 y5
      unfold calamusref11_Alike.l0
      repeat' first
      | (with_reducible exact ih0 _ _ _ _ _ _)
      | (with_reducible exact ih1 _ _ _ _ _ _ _ _ _ _ _ _ _ _ _ _ _)
      | (with_reducible exact LeO.refl _)
      | (with_reducible exact LeO.none _)
      | (with_reducible refine LeO.ite ?_ ?_)
      | (with_reducible refine LeO.bind ?_ (fun _ => ?_))
      | exact ih0 _ _ _ _ _ _
      | exact ih1 _ _ _ _ _ _ _ _ _ _ _ _ _ _ _ _ _
      | exact LeO.none _
      | refine LeO.ite ?_ ?_
      | refine LeO.bind ?_ (fun _ => ?_)
    · intro y0 y1 y2 y3 y4 y5 y6 y7 y8 y9 y10 y11 y12 y13 y14 y15 y16
      unfold calamusref11_Alike.l1
      repeat' first
      | (with_reducible exact ih0 _ _ _ _ _ _)
      | (with_reducible exact ih1 _ _ _ _ _ _ _ _ _ _ _ _ _ _ _ _ _)
      | (with_reducible exact LeO.refl _)
      | (with_reducible exact LeO.none _)
      | (with_reducible refine LeO.ite ?_ ?_)
      | (with_reducible refine LeO.bind ?_ (fun _ => ?_))
      | exact ih0 _ _ _ _ _ _
      | exact ih1 _ _ _ _ _ _ _ _ _ _ _ _ _ _ _ _ _
      | exact LeO.none _
      | refine LeO.ite ?_ ?_
      | refine LeO.bind ?_ (fun _ => ?_)
theorem calamusref11_Alike.mono : ∀ a0 a1 a2 k, LeO (calamusref11_Alike.f k a0 a1 a2) (calamusref11_Alike.f (k + 1) a0 a1 a2) := by
  intro a0 a1 a2 k
  obtain ⟨ih0, ih1⟩ := calamusref11_Alike.mono_l k
  unfold calamusref11_Alike.f
  repeat' first
      | (with_reducible exact ih0 _ _ _ _ _ _)
      | (with_reducible exact ih1 _ _ _ _ _ _ _ _ _ _ _ _ _ _ _ _ _)
      | (with_reducible exact LeO.refl _)
      | (with_reducible exact LeO.none _)
      | (with_reducible refine LeO.ite ?_ ?_)
      | (with_reducible refine LeO.bind ?_ (fun _ => ?_))
      | exact ih0 _ _ _ _ _ _
      | exact ih1 _ _ _ _ _ _ _ _ _ _ _ _ _ _ _ _ _
      | exact LeO.none _
      | refine LeO.ite ?_ ?_
      | refine LeO.bind ?_ (fun _ => ?_)

/-! ### calamuslaw11_OutlineBegins: function 6 -/
def calamuslaw11_OutlineBegins.j0 : Nat → List (S39) → Int → Bool → Option (Bool)
  | 0, _, _, _ => none
  | k + 1, x0, x1, x16 => if x16 = true then (some true) else (if (x0.length : Int) = 0 then (none) else ((some (([] : List (S39)) : List (S39))).bind fun y255 => (if 0 ≤ (Int.tmod (wrap64 (x1)) (x0.length : Int)) then (if (Int.tmod (wrap64 (x1)) (x0.length : Int)) ≤ (x0.length : Int) then ((some (x0.drop ((Int.tmod (wrap64 (x1)) (x0.length : Int)) : Int).toNat : List (S39))).bind fun y258 => (if y255.length + y258.length < 5864062014805 then ((some (y255 ++ y258 : List (S39))).bind fun y262 => ((some (x0.take ((Int.tmod (wrap64 (x1)) (x0.length : Int)) : Int).toNat : List (S39))).bind fun y265 => (if y262.length + y265.length < 5864062014805 then ((outline_Segs.f k x0).bind fun t272 => ((outline_Segs.f k (y262 ++ y265)).bind fun t275 => ((calamusref11_Alike.f k t272 t275 false).bind fun t278 => (some t278)))) else (none)))) else (none))) else (none)) else (none))))
def calamuslaw11_OutlineBegins.f (k : Nat) (l0 : List (S39)) (a1 : Int) : Option (Bool) := (calamuslaw11_alive.f k).bind fun t254 => (if t254 = true then (if (l0.length : Int) = 0 then (calamuslaw11_OutlineBegins.j0 k l0 a1 true) else (calamuslaw11_OutlineBegins.j0 k l0 a1 (decide ((l0.length : Int) > 300)))) else (none))
theorem calamuslaw11_OutlineBegins.mono_l : ∀ k, (∀ y0 y1 y2, LeO (calamuslaw11_OutlineBegins.j0 k y0 y1 y2) (calamuslaw11_OutlineBegins.j0 (k + 1) y0 y1 y2))
  | 0 => fun _ _ _ r h => by simp [calamuslaw11_OutlineBegins.j0] at h
  | k + 1 => by
    have ih0 := calamuslaw11_OutlineBegins.mono_l k
    · intro y0 y1 y2
      unfold calamuslaw11_OutlineBegins.j0
      repeat' first
      | (with_reducible exact ih0 _ _ _)
      | (with_reducible exact calamuslaw11_alive.mono _)
      | (with_reducible exact calamusref11_Alike.mono _ _ _ _)
      | (with_reducible exact outline_Segs.mono _ _)
      | (with_reducible exact LeO.refl _)
      | (with_reducible exact LeO.none _)
      | (with_reducible refine LeO.ite ?_ ?_)
      | (with_reducible refine LeO.bind ?_ (fun _ => ?_))
      | exact ih0 _ _ _
      | exact calamuslaw11_alive.mono _
      | exact calamusref11_Alike.mono _ _ _ _
      | exact outline_Segs.mono _ _
      | exact LeO.none _
      | refine LeO.ite ?_ ?_
      | refine LeO.bind ?_ (fun _ => ?_)
theorem calamuslaw11_OutlineBegins.mono : ∀ a0 a1 k, LeO (calamuslaw11_OutlineBegins.f k a0 a1) (calamuslaw11_OutlineBegins.f (k + 1) a0 a1) := by
  intro a0 a1 k
  have ih0 := calamuslaw11_OutlineBegins.mono_l k
  unfold calamuslaw11_OutlineBegins.f
  repeat' first
      | (with_reducible exact ih0 _ _ _)
      | (with_reducible exact calamuslaw11_alive.mono _)
      | (with_reducible exact calamusref11_Alike.mono _ _ _ _)
      | (with_reducible exact outline_Segs.mono _ _)
      | (with_reducible exact LeO.refl _)
      | (with_reducible exact LeO.none _)
      | (with_reducible refine LeO.ite ?_ ?_)
      | (with_reducible refine LeO.bind ?_ (fun _ => ?_))
      | exact ih0 _ _ _
      | exact calamuslaw11_alive.mono _
      | exact calamusref11_Alike.mono _ _ _ _
      | exact outline_Segs.mono _ _
      | exact LeO.none _
      | refine LeO.ite ?_ ?_
      | refine LeO.bind ?_ (fun _ => ?_)

/-! ### calamusref07_Great: function 23 -/
def calamusref07_Great.l0 : Nat → Int → List (List (S39)) → Int → Int → Option (Bool)
  | 0, _, _, _, _ => none
  | k + 1, x3, x9, x10, x11 => if x11 < x10 then (if 0 ≤ x11 then (if x11 < (x9.length : Int) then (if ((rd_L5 x9 x11).length : Int) > 5000 then (some true) else (calamusref07_Great.l0 k (wrap64 (x3 + ((rd_L5 x9 x11).length : Int))) x9 x10 (wrap64 (x11 + 1)))) else (none)) else (none)) else (some (decide (x3 > 9000)))
def calamusref07_Great.f (k : Nat) (l0 : List (List (S39))) : Option (Bool) := if (l0.length : Int) > 600 then (some true) else (calamusref07_Great.l0 k 0 l0 (l0.length : Int) 0)
theorem calamusref07_Great.mono_l : ∀ k, (∀ y0 y1 y2 y3, LeO (calamusref07_Great.l0 k y0 y1 y2 y3) (calamusref07_Great.l0 (k + 1) y0 y1 y2 y3))
  | 0 => fun _ _ _ _ r h => by simp [calamusref07_Great.l0] at h
  | k + 1 => by
    have ih0 := calamusref07_Great.mono_l k
    · intro y0 y1 y2 y3
      unfold calamusref07_Great.l0
      repeat' first
      | (with_reducible exact ih0 _ _ _ _)
      | (with_reducible exact LeO.refl _)
      | (with_reducible exact LeO.none _)
      | (with_reducible refine LeO.ite ?_ ?_)
      | (with_reducible refine LeO.bind ?_ (fun _ => ?_))
      | exact ih0 _ _ _ _
      | exact LeO.none _
      | refine LeO.ite ?_ ?_
      | refine LeO.bind ?_ (fun _ => ?_)
theorem calamusref07_Great.mono : ∀ a0 k, LeO (calamusref07_Great.f k a0) (calamusref07_Great.f (k + 1) a0) := by
  intro a0 k
  have ih0 := calamusref07_Great.mono_l k
  unfold calamusref07_Great.f
  repeat' first
      | (with_reducible exact ih0 _ _ _ _)
      | (with_reducible exact LeO.refl _)
      | (with_reducible exact LeO.none _)
      | (with_reducible refine LeO.ite ?_ ?_)
      | (with_reducible refine LeO.bind ?_ (fun _ => ?_))
      | exact ih0 _ _ _ _
      | exact LeO.none _
      | refine LeO.ite ?_ ?_
      | refine LeO.bind ?_ (fun _ => ?_)

/-! ### calamusref07_Copy: function 24 -/
def calamusref07_Copy.l0 : Nat → List (List (S39)) → List (List (S39)) → Int → Int → Option ((List (List (S39))))
  | 0, _, _, _, _ => none
  | k + 1, x3, x6, x7, x8 => if x8 < x7 then (if 0 ≤ x8 then (if x8 < (x6.length : Int) then ((some (([] : List (S39)) : List (S39))).bind fun y281 => (if y281.length + (rd_L5 x6 x8).length < 5864062014805 then (if x3.length < 5864062014805 then (calamusref07_Copy.l0 k (x3 ++ [(y281 ++ (rd_L5 x6 x8))]) x6 x7 (wrap64 (x8 + 1))) else (none)) else (none))) else (none)) else (none)) else (some x3)
def calamusref07_Copy.f (k : Nat) (l0 : List (List (S39))) : Option ((List (List (S39)))) := calamusref07_Copy.l0 k ([] : List (List (S39))) l0 (l0.length : Int) 0
theorem calamusref07_Copy.mono_l : ∀ k, (∀ y0 y1 y2 y3, LeO (calamusref07_Copy.l0 k y0 y1 y2 y3) (calamusref07_Copy.l0 (k + 1) y0 y1 y2 y3))
  | 0 => fun _ _ _ _ r h => by simp [calamusref07_Copy.l0] at h
  | k + 1 => by
    have ih0 := calamusref07_Copy.mono_l k
    · intro y0 y1 y2 y3
      unfold calamusref07_Copy.l0
      repeat' first
      | (with_reducible exact ih0 _ _ _ _)
      | (with_reducible exact LeO.refl _)
      | (with_reducible exact LeO.none _)
      | (with_reducible refine LeO.ite ?_ ?_)
      | (with_reducible refine LeO.bind ?_ (fun _ => ?_))
      | exact ih0 _ _ _ _
      | exact LeO.none _
      | refine LeO.ite ?_ ?_
      | refine LeO.bind ?_ (fun _ => ?_)
theorem calamusref07_Copy.mono : ∀ a0 k, LeO (calamusref07_Copy.f k a0) (calamusref07_Copy.f (k + 1) a0) := by
  intro a0 k
  have ih0 := calamusref07_Copy.mono_l k
  unfold calamusref07_Copy.f
  repeat' first
      | (with_reducible exact ih0 _ _ _ _)
      | (with_reducible exact LeO.refl _)
      | (with_reducible exact LeO.none _)
      | (with_reducible refine LeO.ite ?_ ?_)
      | (with_reducible refine LeO.bind ?_ (fun _ => ?_))
      | exact ih0 _ _ _ _
      | exact LeO.none _
      | refine LeO.ite ?_ ?_
      | refine LeO.bind ?_ (fun _ => ?_)

-- NOT PRINTED: function 25 (outline_Lift)

/-! ### calamusref11_Lift: function 26 -/
mutual
def calamusref11_Lift.l0 : Nat → List (List (S39)) → List (List (S39)) → Int → Int → Option ((List (List (S39))) × Int)
  | 0, _, _, _, _ => none
  | k + 1, x4, x10, x11, x12 => if x12 < x11 then (if 0 ≤ x12 then (if x12 < (x10.length : Int) then (calamusref11_Lift.l1 k x4 ([] : List (S39)) x10 x11 x12 (rd_L5 x10 x12) ((rd_L5 x10 x12).length : Int) 0) else (none)) else (none)) else (some (x4, 0))
def calamusref11_Lift.l1 : Nat → List (List (S39)) → List (S39) → List (List (S39)) → Int → Int → List (S39) → Int → Int → Option ((List (List (S39))) × Int)
  | 0, _, _, _, _, _, _, _, _ => none
  | k + 1, x4, x7, x10, x11, x12, x16, x17, x18 => if x18 < x17 then (if 0 ≤ x18 then (if x18 < (x16.length : Int) then (if ((rd_T39 x16 x18).f0) < (-32768) then (some (([] : List (List (S39))), 6)) else (if ((rd_T39 x16 x18).f0) > 32767 then (some (([] : List (List (S39))), 6)) else (if ((rd_T39 x16 x18).f1) < (-32768) then (some (([] : List (List (S39))), 6)) else (if ((rd_T39 x16 x18).f1) > 32767 then (some (([] : List (List (S39))), 6)) else (if x7.length < 5864062014805 then (calamusref11_Lift.l1 k x4 (x7 ++ [(⟨wrap64 (64 * ((rd_T39 x16 x18).f0)), wrap64 (64 * ((rd_T39 x16 x18).f1)), (rd_T39 x16 x18).f2⟩ : S39)]) x10 x11 x12 x16 x17 (wrap64 (x18 + 1))) else (none)))))) else (none)) else (none)) else (if x4.length < 5864062014805 then (calamusref11_Lift.l0 k (x4 ++ [x7]) x10 x11 (wrap64 (x12 + 1))) else (none))
end
def calamusref11_Lift.f (k : Nat) (l0 : List (List (S39))) : Option ((List (List (S39))) × Int) := calamusref11_Lift.l0 k ([] : List (List (S39))) l0 (l0.length : Int) 0
theorem calamusref11_Lift.mono_l : ∀ k, (∀ y0 y1 y2 y3, LeO (calamusref11_Lift.l0 k y0 y1 y2 y3) (calamusref11_Lift.l0 (k + 1) y0 y1 y2 y3)) ∧ (∀ y0 y1 y2 y3 y4 y5 y6 y7, LeO (calamusref11_Lift.l1 k y0 y1 y2 y3 y4 y5 y6 y7) (calamusref11_Lift.l1 (k + 1) y0 y1 y2 y3 y4 y5 y6 y7))
  | 0 => ⟨fun _ _ _ _ r h => by simp [calamusref11_Lift.l0] at h, fun _ _ _ _ _ _ _ _ r h => by simp [calamusref11_Lift.l1] at h⟩
  | k + 1 => by
    obtain ⟨ih0, ih1⟩ := calamusref11_Lift.mono_l k
    refine ⟨?_, ?_⟩
    · intro y0 y1 y2 y3
      unfold calamusref11_Lift.l0
      repeat' first
      | (with_reducible exact ih0 _ _ _ _)
      | (with_reducible exact ih1 _ _ _ _ _ _ _ _)
      | (with_reducible exact LeO.refl _)
      | (with_reducible exact LeO.none _)
      | (with_reducible refine LeO.ite ?_ ?_)
      | (with_reducible refine LeO.bind ?_ (fun _ => ?_))
      | exact ih0 _ _ _ _
      | exact ih1 _ _ _ _ _ _ _ _
      | exact LeO.none _
      | refine LeO.ite ?_ ?_
      | refine LeO.bind ?_ (fun _ => ?_)
    · intro y0 y1 y2 y3 y4 y5 y6 y7
      unfold calamusref11_Lift.l1
      repeat' first
      | (with_reducible exact ih0 _ _ _ _)
      | (with_reducible exact ih1 _ _ _ _ _ _ _ _)
      | (with_reducible exact LeO.refl _)
      | (with_reducible exact LeO.none _)
      | (with_reducible refine LeO.ite ?_ ?_)
      | (with_reducible refine LeO.bind ?_ (fun _ => ?_))
      | exact ih0 _ _ _ _
      | exact ih1 _ _ _ _ _ _ _ _
      | exact LeO.none _
      | refine LeO.ite ?_ ?_
      | refine LeO.bind ?_ (fun _ => ?_)
theorem calamusref11_Lift.mono : ∀ a0 k, LeO (calamusref11_Lift.f k a0) (calamusref11_Lift.f (k + 1) a0) := by
  intro a0 k
  obtain ⟨ih0, ih1⟩ := calamusref11_Lift.mono_l k
  unfold calamusref11_Lift.f
  repeat' first
      | (with_reducible exact ih0 _ _ _ _)
      | (with_reducible exact ih1 _ _ _ _ _ _ _ _)
      | (with_reducible exact LeO.refl _)
      | (with_reducible exact LeO.none _)
      | (with_reducible refine LeO.ite ?_ ?_)
      | (with_reducible refine LeO.bind ?_ (fun _ => ?_))
      | exact ih0 _ _ _ _
      | exact ih1 _ _ _ _ _ _ _ _
      | exact LeO.none _
      | refine LeO.ite ?_ ?_
      | refine LeO.bind ?_ (fun _ => ?_)

-- NOT PRINTED: function 7 (calamuslaw11_OutlineLifts)

/-! ### outline_Flip: function 27 -/
mutual
def outline_Flip.l0 : Nat → List (List (S39)) → List (List (S39)) → Int → Int → Option ((List (List (S39))))
  | 0, _, _, _, _ => none
  | k + 1, x3, x9, x10, x11 => if x11 < x10 then (if 0 ≤ x11 then (if x11 < (x9.length : Int) then (if 0 ≤ ((rd_L5 x9 x11).length : Int) then (if (((rd_L5 x9 x11).length : Int) : Int).toNat ≤ 11728124029610 then (outline_Flip.l1 k x3 (rd_L5 x9 x11) (List.replicate (((rd_L5 x9 x11).length : Int) : Int).toNat z39) x9 x10 x11 (rd_L5 x9 x11) ((rd_L5 x9 x11).length : Int) 0) else (none)) else (none)) else (none)) else (none)) else (some x3)
def outline_Flip.l1 : Nat → List (List (S39)) → List (S39) → List (S39) → List (List (S39)) → Int → Int → List (S39) → Int → Int → Option ((List (List (S39))))
  | 0, _, _, _, _, _, _, _, _, _ => none
  | k + 1, x3, x5, x6, x9, x10, x11, x18, x19, x20 => if x20 < x19 then (if 0 ≤ x20 then (if x20 < (x18.length : Int) then (if 0 ≤ (wrap64 ((wrap64 ((x5.length : Int) - 1)) - x20)) then (if (wrap64 ((wrap64 ((x5.length : Int) - 1)) - x20)) < (x6.length : Int) then (outline_Flip.l1 k x3 x5 (x6.set ((wrap64 ((wrap64 ((x5.length : Int) - 1)) - x20)) : Int).toNat (⟨(rd_T39 x18 x20).f0, (rd_T39 x18 x20).f1, (rd_T39 x18 x20).f2⟩ : S39)) x9 x10 x11 x18 x19 (wrap64 (x20 + 1))) else (none)) else (none)) else (none)) else (none)) else (if x3.length < 5864062014805 then (outline_Flip.l0 k (x3 ++ [x6]) x9 x10 (wrap64 (x11 + 1))) else (none))
end
def outline_Flip.f (k : Nat) (l0 : List (List (S39))) : Option ((List (List (S39)))) := outline_Flip.l0 k ([] : List (List (S39))) l0 (l0.length : Int) 0
theorem outline_Flip.mono_l : ∀ k, (∀ y0 y1 y2 y3, LeO (outline_Flip.l0 k y0 y1 y2 y3) (outline_Flip.l0 (k + 1) y0 y1 y2 y3)) ∧ (∀ y0 y1 y2 y3 y4 y5 y6 y7 y8, LeO (outline_Flip.l1 k y0 y1 y2 y3 y4 y5 y6 y7 y8) (outline_Flip.l1 (k + 1) y0 y1 y2 y3 y4 y5 y6 y7 y8))
  | 0 => ⟨fun _ _ _ _ r h => by simp [outline_Flip.l0] at h, fun _ _ _ _ _ _ _ _ _ r h => by simp [outline_Flip.l1] at h⟩
  | k + 1 => by
    obtain ⟨ih0, ih1⟩ := outline_Flip.mono_l k
    refine ⟨?_, ?_⟩
    · intro y0 y1 y2 y3
      unfold outline_Flip.l0
      repeat' first
      | (with_reducible exact ih0 _ _ _ _)
      | (with_reducible exact ih1 _ _ _ _ _ _ _ _ _)
      | (with_reducible exact LeO.refl _)
      | (with_reducible exact LeO.none _)
      | (with_reducible refine LeO.ite ?_ ?_)
      | (with_reducible refine LeO.bind ?_ (fun _ => ?_))
      | exact ih0 _ _ _ _
      | exact ih1 _ _ _ _ _ _ _ _ _
      | exact LeO.none _
      | refine LeO.ite ?_ ?_
      | refine LeO.bind ?_ (fun _ => ?_)
    · intro y0 y1 y2 y3 y4 y5 y6 y7 y8
      unfold outline_Flip.l1
      repeat' first
      | (with_reducible exact ih0 _ _ _ _)
      | (with_reducible exact ih1 _ _ _ _ _ _ _ _ _)
      | (with_reducible exact LeO.refl _)
      | (with_reducible exact LeO.none _)
      | (with_reducible refine LeO.ite ?_ ?_)
      | (with_reducible refine LeO.bind ?_ (fun _ => ?_))
      | exact ih0 _ _ _ _
      | exact ih1 _ _ _ _ _ _ _ _ _
      | exact LeO.none _
      | refine LeO.ite ?_ ?_
      | refine LeO.bind ?_ (fun _ => ?_)
theorem outline_Flip.mono : ∀ a0 k, LeO (outline_Flip.f k a0) (outline_Flip.f (k + 1) a0) := by
  intro a0 k
  obtain ⟨ih0, ih1⟩ := outline_Flip.mono_l k
  unfold outline_Flip.f
  repeat' first
      | (with_reducible exact ih0 _ _ _ _)
      | (with_reducible exact ih1 _ _ _ _ _ _ _ _ _)
      | (with_reducible exact LeO.refl _)
      | (with_reducible exact LeO.none _)
      | (with_reducible refine LeO.ite ?_ ?_)
      | (with_reducible refine LeO.bind ?_ (fun _ => ?_))
      | exact ih0 _ _ _ _
      | exact ih1 _ _ _ _ _ _ _ _ _
      | exact LeO.none _
      | refine LeO.ite ?_ ?_
      | refine LeO.bind ?_ (fun _ => ?_)

/-! ### calamusref11_Flip: function 28 -/
mutual
def calamusref11_Flip.l0 : Nat → List (List (S39)) → List (List (S39)) → Int → Int → Option ((List (List (S39))))
  | 0, _, _, _, _ => none
  | k + 1, x3, x8, x9, x10 => if x10 < x9 then (if 0 ≤ x10 then (if x10 < (x8.length : Int) then (calamusref11_Flip.l1 k x3 (rd_L5 x8 x10) ([] : List (S39)) (wrap64 (((rd_L5 x8 x10).length : Int) - 1)) x8 x9 x10) else (none)) else (none)) else (some x3)
def calamusref11_Flip.l1 : Nat → List (List (S39)) → List (S39) → List (S39) → Int → List (List (S39)) → Int → Int → Option ((List (List (S39))))
  | 0, _, _, _, _, _, _, _ => none
  | k + 1, x3, x5, x6, x7, x8, x9, x10 => if x7 ≥ 0 then (if 0 ≤ x7 then (if x7 < (x5.length : Int) then (if x6.length < 5864062014805 then (calamusref11_Flip.l1 k x3 x5 (x6 ++ [(⟨(rd_T39 x5 x7).f0, (rd_T39 x5 x7).f1, (rd_T39 x5 x7).f2⟩ : S39)]) (wrap64 (x7 - 1)) x8 x9 x10) else (none)) else (none)) else (none)) else (if x3.length < 5864062014805 then (calamusref11_Flip.l0 k (x3 ++ [x6]) x8 x9 (wrap64 (x10 + 1))) else (none))
end
def calamusref11_Flip.f (k : Nat) (l0 : List (List (S39))) : Option ((List (List (S39)))) := calamusref11_Flip.l0 k ([] : List (List (S39))) l0 (l0.length : Int) 0
theorem calamusref11_Flip.mono_l : ∀ k, (∀ y0 y1 y2 y3, LeO (calamusref11_Flip.l0 k y0 y1 y2 y3) (calamusref11_Flip.l0 (k + 1) y0 y1 y2 y3)) ∧ (∀ y0 y1 y2 y3 y4 y5 y6, LeO (calamusref11_Flip.l1 k y0 y1 y2 y3 y4 y5 y6) (calamusref11_Flip.l1 (k + 1) y0 y1 y2 y3 y4 y5 y6))
  | 0 => ⟨fun _ _ _ _ r h => by simp [calamusref11_Flip.l0] at h, fun _ _ _ _ _ _ _ r h => by simp [calamusref11_Flip.l1] at h⟩
  | k + 1 => by
    obtain ⟨ih0, ih1⟩ := calamusref11_Flip.mono_l k
    refine ⟨?_, ?_⟩
    · intro y0 y1 y2 y3
      unfold calamusref11_Flip.l0
      repeat' first
      | (with_reducible exact ih0 _ _ _ _)
      | (with_reducible exact ih1 _ _ _ _ _ _ _)
      | (with_reducible exact LeO.refl _)
      | (with_reducible exact LeO.none _)
      | (with_reducible refine LeO.ite ?_ ?_)
      | (with_reducible refine LeO.bind ?_ (fun _ => ?_))
      | exact ih0 _ _ _ _
      | exact ih1 _ _ _ _ _ _ _
      | exact LeO.none _
      | refine LeO.ite ?_ ?_
      | refine LeO.bind ?_ (fun _ => ?_)
    · intro y0 y1 y2 y3 y4 y5 y6
      unfold calamusref11_Flip.l1
      repeat' first
      | (with_reducible exact ih0 _ _ _ _)
      | (with_reducible exact ih1 _ _ _ _ _ _ _)
      | (with_reducible exact LeO.refl _)
      | (with_reducible exact LeO.none _)
      | (with_reducible refine LeO.ite ?_ ?_)
      | (with_reducible refine LeO.bind ?_ (fun _ => ?_))
      | exact ih0 _ _ _ _
      | exact ih1 _ _ _ _ _ _ _
      | exact LeO.none _
      | refine LeO.ite ?_ ?_
      | refine LeO.bind ?_ (fun _ => ?_)
theorem calamusref11_Flip.mono : ∀ a0 k, LeO (calamusref11_Flip.f k a0) (calamusref11_Flip.f (k + 1) a0) := by
  intro a0 k
  obtain ⟨ih0, ih1⟩ := calamusref11_Flip.mono_l k
  unfold calamusref11_Flip.f
  repeat' first
      | (with_reducible exact ih0 _ _ _ _)
      | (with_reducible exact ih1 _ _ _ _ _ _ _)
      | (with_reducible exact LeO.refl _)
      | (with_reducible exact LeO.none _)
      | (with_reducible refine LeO.ite ?_ ?_)
      | (with_reducible refine LeO.bind ?_ (fun _ => ?_))
      | exact ih0 _ _ _ _
      | exact ih1 _ _ _ _ _ _ _
      | exact LeO.none _
      | refine LeO.ite ?_ ?_
      | refine LeO.bind ?_ (fun _ => ?_)

/-! ### outline_Knots: function 29 -/
def outline_Knots.l0 : Nat → Int → List (List (S39)) → Int → Int → Option (Int)
  | 0, _, _, _, _ => none
  | k + 1, x3, x6, x7, x8 => if x8 < x7 then (if 0 ≤ x8 then (if x8 < (x6.length : Int) then (outline_Knots.l0 k (wrap64 (x3 + ((rd_L5 x6 x8).length : Int))) x6 x7 (wrap64 (x8 + 1))) else (none)) else (none)) else (some x3)
def outline_Knots.f (k : Nat) (l0 : List (List (S39))) : Option (Int) := outline_Knots.l0 k 0 l0 (l0.length : Int) 0
theorem outline_Knots.mono_l : ∀ k, (∀ y0 y1 y2 y3, LeO (outline_Knots.l0 k y0 y1 y2 y3) (outline_Knots.l0 (k + 1) y0 y1 y2 y3))
  | 0 => fun _ _ _ _ r h => by simp [outline_Knots.l0] at h
  | k + 1 => by
    have ih0 := outline_Knots.mono_l k
    · intro y0 y1 y2 y3
      unfold outline_Knots.l0
      repeat' first
      | (with_reducible exact ih0 _ _ _ _)
      | (with_reducible exact LeO.refl _)
      | (with_reducible exact LeO.none _)
      | (with_reducible refine LeO.ite ?_ ?_)
      | (with_reducible refine LeO.bind ?_ (fun _ => ?_))
      | exact ih0 _ _ _ _
      | exact LeO.none _
      | refine LeO.ite ?_ ?_
      | refine LeO.bind ?_ (fun _ => ?_)
theorem outline_Knots.mono : ∀ a0 k, LeO (outline_Knots.f k a0) (outline_Knots.f (k + 1) a0) := by
  intro a0 k
  have ih0 := outline_Knots.mono_l k
  unfold outline_Knots.f
  repeat' first
      | (with_reducible exact ih0 _ _ _ _)
      | (with_reducible exact LeO.refl _)
      | (with_reducible exact LeO.none _)
      | (with_reducible refine LeO.ite ?_ ?_)
      | (with_reducible refine LeO.bind ?_ (fun _ => ?_))
      | exact ih0 _ _ _ _
      | exact LeO.none _
      | refine LeO.ite ?_ ?_
      | refine LeO.bind ?_ (fun _ => ?_)

/-! ### calamusref11_Knots: function 30 -/
def calamusref11_Knots.l0 : Nat → Int → List (List (S39)) → Int → Int → Option (Int)
  | 0, _, _, _, _ => none
  | k + 1, x3, x6, x7, x8 => if x8 < x7 then (if 0 ≤ x8 then (if x8 < (x6.length : Int) then (calamusref11_Knots.l0 k (wrap64 (x3 + ((rd_L5 x6 x8).length : Int))) x6 x7 (wrap64 (x8 + 1))) else (none)) else (none)) else (some x3)
def calamusref11_Knots.f (k : Nat) (l0 : List (List (S39))) : Option (Int) := calamusref11_Knots.l0 k 0 l0 (l0.length : Int) 0
theorem calamusref11_Knots.mono_l : ∀ k, (∀ y0 y1 y2 y3, LeO (calamusref11_Knots.l0 k y0 y1 y2 y3) (calamusref11_Knots.l0 (k + 1) y0 y1 y2 y3))
  | 0 => fun _ _ _ _ r h => by simp [calamusref11_Knots.l0] at h
  | k + 1 => by
    have ih0 := calamusref11_Knots.mono_l k
    · intro y0 y1 y2 y3
      unfold calamusref11_Knots.l0
      repeat' first
      | (with_reducible exact ih0 _ _ _ _)
      | (with_reducible exact LeO.refl _)
      | (with_reducible exact LeO.none _)
      | (with_reducible refine LeO.ite ?_ ?_)
      | (with_reducible refine LeO.bind ?_ (fun _ => ?_))
      | exact ih0 _ _ _ _
      | exact LeO.none _
      | refine LeO.ite ?_ ?_
      | refine LeO.bind ?_ (fun _ => ?_)
theorem calamusref11_Knots.mono : ∀ a0 k, LeO (calamusref11_Knots.f k a0) (calamusref11_Knots.f (k + 1) a0) := by
  intro a0 k
  have ih0 := calamusref11_Knots.mono_l k
  unfold calamusref11_Knots.f
  repeat' first
      | (with_reducible exact ih0 _ _ _ _)
      | (with_reducible exact LeO.refl _)
      | (with_reducible exact LeO.none _)
      | (with_reducible refine LeO.ite ?_ ?_)
      | (with_reducible refine LeO.bind ?_ (fun _ => ?_))
      | exact ih0 _ _ _ _
      | exact LeO.none _
      | refine LeO.ite ?_ ?_
      | refine LeO.bind ?_ (fun _ => ?_)

-- NOT PRINTED: function 8 (calamuslaw11_OutlineFlips)

end Go.Proofs.Ytoghjnmcimniaaa.O
