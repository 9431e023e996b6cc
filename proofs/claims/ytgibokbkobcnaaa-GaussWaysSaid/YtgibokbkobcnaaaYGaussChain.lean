/- Twice the area of a closed way, as the sum along it and the way back: moved, begun elsewhere, gone backwards, parted. -/
import Derived.Test.YtgibokbkobcnaaaYGaussAreaBase
namespace Go.Proofs.Ytgibokbkobcnaaa.G.Base
open Go.RowKit Go.Proofs.YtgibokbkobcnaaaW.PrintWords Go.Proofs.YtgibokbkobcnaaaW.PrintLast Go.Proofs.YtgibokbkobcnaaaW.PrintMore Go.Proofs.Ytgibokbkobcnaaa.G
set_option linter.unusedVariables false
set_option linter.unusedSimpArgs false
/-- The sum along a way. -/
def ch : List Pt → Int
  | [] => 0
  | [_] => 0
  | x :: y :: l => cr x y + ch (y :: l)
theorem cr_anti (a b : Pt) : cr b a = - cr a b := by unfold cr; grind
theorem ch_glue : ∀ (l m : List Pt) (x : Pt), ch (l ++ x :: m) = ch (l ++ [x]) + ch (x :: m)
  | [], m, x => by simp [ch]
  | [y], m, x => by simp [ch]
  | y :: z :: l, m, x => by
    have ih := ch_glue (z :: l) m x
    simp only [List.cons_append, ch] at ih ⊢
    omega
theorem ch_back : ∀ (l : List Pt), ch l.reverse = - ch l
  | [] => rfl
  | [_] => rfl
  | x :: y :: l => by
    have ih := ch_back (y :: l)
    rw [List.reverse_cons] at ih
    rw [List.reverse_cons, List.reverse_cons, List.append_assoc, List.singleton_append, ch_glue, ih]
    simp only [ch]
    rw [cr_anti x y]
    omega
def mv (d : Pt) (p : Pt) : Pt := ⟨p.f0 + d.f0, p.f1 + d.f1⟩
theorem cr_mv (d a b : Pt) : cr (mv d a) (mv d b) = cr a b + (cr d b - cr d a) := by
  unfold cr mv
  grind
theorem ch_mv (d : Pt) : ∀ (l : List Pt) (x : Pt), ch ((x :: l).map (mv d)) = ch (x :: l) + (cr d ((x :: l).getLast (by simp)) - cr d x)
  | [], x => by simp [ch]
  | y :: l, x => by
    have ih := ch_mv d l y
    simp only [List.map_cons, ch, List.getLast_cons_cons] at ih ⊢
    rw [ih, cr_mv]
    omega
/-- Along the way and back to where it begins. -/
def loop : List Pt → Int
  | [] => 0
  | x :: l => ch (x :: l) + cr ((x :: l).getLast (by simp)) x
theorem loop_ch (x : Pt) (l : List Pt) : loop (x :: l) = ch (x :: l ++ [x]) := by
  have h : ∀ (l : List Pt) (y : Pt), ch (y :: l ++ [x]) = ch (y :: l) + cr ((y :: l).getLast (by simp)) x := by
    intro l
    induction l with
    | nil => intro y; simp [ch]
    | cons z l ih =>
      intro y
      have := ih z
      simp only [List.cons_append, ch, List.getLast_cons_cons] at this ⊢
      omega
  rw [h l x]
  rfl
theorem loop_mv (d : Pt) (l : List Pt) : loop (l.map (mv d)) = loop l := by
  cases l with
  | nil => rfl
  | cons x l =>
    have h := ch_mv d l x
    simp only [List.map_cons] at h
    simp only [List.map_cons, loop]
    rw [h]
    have e : (mv d x :: l.map (mv d)).getLast (by simp) = mv d ((x :: l).getLast (by simp)) := by
      have := List.getLast_map (f := mv d) (l := x :: l) (by simp)
      simpa using this
    rw [e, cr_mv]
    omega
theorem loop_turn (x : Pt) (l : List Pt) (y : Pt) (m : List Pt) : loop ((x :: l) ++ (y :: m)) = loop ((y :: m) ++ (x :: l)) := by
  have a1 : loop ((x :: l) ++ (y :: m)) = ch (x :: (l ++ y :: m) ++ [x]) := loop_ch x (l ++ y :: m)
  have a2 : loop ((y :: m) ++ (x :: l)) = ch (y :: (m ++ x :: l) ++ [y]) := loop_ch y (m ++ x :: l)
  have e1 : x :: (l ++ y :: m) ++ [x] = (x :: l) ++ y :: (m ++ [x]) := by simp
  have e2 : y :: (m ++ x :: l) ++ [y] = (y :: m) ++ x :: (l ++ [y]) := by simp
  rw [a1, a2, e1, e2, ch_glue (x :: l), ch_glue (y :: m)]
  have e3 : x :: l ++ [y] = x :: (l ++ [y]) := by simp
  have e4 : y :: m ++ [x] = y :: (m ++ [x]) := by simp
  rw [e3, e4]
  omega
theorem loop_back (l : List Pt) : loop l.reverse = - loop l := by
  cases l with
  | nil => rfl
  | cons x l =>
    rw [loop_ch, ← ch_back]
    rw [List.reverse_append, List.reverse_singleton, List.singleton_append]
    rcases List.eq_nil_or_concat l with rfl | ⟨m, z, rfl⟩
    · first
        | (simp [loop, ch]; done)
        | (simp [loop, ch]; unfold cr; grind)
    · rw [List.concat_eq_append]
      have e : (x :: (m ++ [z])).reverse = z :: (m.reverse ++ [x]) := by simp
      rw [e, loop_ch]
      have f1 : z :: (m.reverse ++ [x]) ++ [z] = (z :: m.reverse) ++ x :: [z] := by simp
      have f2 : x :: z :: (m.reverse ++ [x]) = [x] ++ z :: (m.reverse ++ [x]) := by simp
      rw [f1, ch_glue, f2, ch_glue]
      simp only [ch, List.cons_append, List.nil_append]
      omega
/-- The two parts of a way that is cut from its first point to another one. -/
theorem loop_parts (l : List Pt) (x : Pt) (m : List Pt) (h : Pt) (t : List Pt) (e : l ++ [x] = h :: t) : loop (l ++ x :: m) = loop (l ++ [x]) + loop (x :: m ++ [h]) := by
  have e2 : l ++ x :: m = h :: (t ++ m) := by rw [show l ++ x :: m = (l ++ [x]) ++ m by simp, e]; rfl
  have a3 : loop (x :: m ++ [h]) = ch (x :: (m ++ [h]) ++ [x]) := loop_ch x (m ++ [h])
  rw [e2, loop_ch, e, loop_ch, a3]
  have f1 : h :: (t ++ m) ++ [h] = l ++ x :: (m ++ [h]) := by rw [← e2]; simp
  have f2 : h :: t ++ [h] = l ++ x :: [h] := by rw [← e]; simp
  have f3 : x :: (m ++ [h]) ++ [x] = (x :: m) ++ h :: [x] := by simp
  rw [f1, f2, f3, ch_glue l (m ++ [h]) x, ch_glue l [h] x, ch_glue (x :: m) [x] h]
  have f4 : x :: m ++ [h] = x :: (m ++ [h]) := by simp
  rw [f4]
  simp only [ch]
  rw [cr_anti h x]
  omega
/-- The area is the loop. -/
theorem sumN_ch (l : List Pt) : ∀ n, n + 1 ≤ l.length → sumN (fun i => cr (gt l i) (gt l ((i + 1) % l.length))) n = ch (l.take (n + 1))
  | 0, h => by
    match l, h with
    | x :: l, _ => simp [sumN, ch]
  | n + 1, h => by
    rw [sumN, sumN_ch l n (by omega), Nat.mod_eq_of_lt (by omega)]
    have e : l.take (n + 1 + 1) = l.take n ++ l[n] :: [l[n + 1]] := by
      have t1 : l.take (n + 1 + 1) = l.take (n + 1) ++ [l[n + 1]] := List.take_succ_eq_append_getElem (by omega)
      have t2 : l.take (n + 1) = l.take n ++ [l[n]] := List.take_succ_eq_append_getElem (by omega)
      rw [t1, t2, List.append_assoc]
      rfl
    have e1 : l.take (n + 1) = l.take n ++ [l[n]] := List.take_succ_eq_append_getElem (by omega)
    have g0 : gt l n = l[n] := by unfold gt; rw [List.getD_eq_getElem?_getD, List.getElem?_eq_getElem (by omega)]; rfl
    have g1 : gt l (n + 1) = l[n + 1] := by unfold gt; rw [List.getD_eq_getElem?_getD, List.getElem?_eq_getElem (by omega)]; rfl
    rw [e, e1, ch_glue (l.take n) [l[n + 1]] l[n], g0, g1]
    have : ch (l[n] :: [l[n + 1]]) = cr l[n] l[n + 1] := by simp [ch]
    rw [this]
theorem ar_loop (l : List Pt) : ar l = loop l := by
  match l with
  | [] => rfl
  | x :: l =>
    unfold ar
    have hn : (x :: l).length = l.length + 1 := by simp
    have h := sumN_ch (x :: l) l.length (by simp)
    rw [hn, sumN]
    rw [hn] at h
    rw [h, ← hn, List.take_length]
    have g0 : gt (x :: l) l.length = (x :: l).getLast (by simp) := by
      unfold gt
      rw [List.getD_eq_getElem?_getD, List.getElem?_eq_getElem (by simp), List.getLast_eq_getElem]
      rfl
    have g1 : gt (x :: l) ((x :: l).length % (x :: l).length) = x := by rw [Nat.mod_self]; rfl
    rw [g1, g0]
    rfl
end Go.Proofs.Ytgibokbkobcnaaa.G.Base
