/- gauss.Area and the document's area over whole numbers: both are the sum of the cross products. -/
import Derived.Test.YtgibokbkobcnaaaYGaussBase
namespace Go.Proofs.Ytgibokbkobcnaaa.G.Base
open Go.RowKit Go.Proofs.YtgibokbkobcnaaaW.PrintWords Go.Proofs.YtgibokbkobcnaaaW.PrintLast Go.Proofs.YtgibokbkobcnaaaW.PrintMore Go.Proofs.Ytgibokbkobcnaaa.G
set_option linter.unusedVariables false
set_option linter.unusedSimpArgs false

abbrev Pt := S23
def allg (l : List S23) : Bool := l.all fun p => gauss_Cross.gd p.f0 p.f1
def gt (l : List S23) (i : Nat) : S23 := l.getD i z23
def cr (a b : S23) : Int := a.f0 * b.f1 - a.f1 * b.f0
def sumN (f : Nat → Int) : Nat → Int
  | 0 => 0
  | n + 1 => sumN f n + f n
/-- Twice the area of a closed way. -/
def ar (l : List S23) : Int := sumN (fun i => cr (gt l i) (gt l ((i + 1) % l.length))) l.length
theorem rdP (l : List S23) (i : Nat) : rd_T23 l (i : Int) = gt l i := by
  show l.getD (i : Int).toNat _ = _
  rw [Int.toNat_natCast]
  rfl
theorem gt_mem (l : List S23) (i : Nat) (h : i < l.length) : gt l i ∈ l := by
  unfold gt
  rw [List.getD_eq_getElem?_getD, List.getElem?_eq_getElem h]
  exact List.getElem_mem h
theorem allg_at {l : List S23} (h : allg l = true) (i : Nat) (hi : i < l.length) : Bd (gt l i).f0 ∧ Bd (gt l i).f1 := bd_of ((List.all_eq_true.1 h) _ (gt_mem l i hi))
theorem allg_drop (l : List S23) (i : Nat) (hi : i < l.length) : allg (l.drop i) = (gauss_Cross.gd (gt l i).f0 (gt l i).f1 && allg (l.drop (i + 1))) := by
  rw [List.drop_eq_getElem_cons hi]
  unfold allg gt
  rw [List.all_cons, List.getD_eq_getElem?_getD, List.getElem?_eq_getElem hi]
  rfl
theorem wn (i : Nat) (h : i < 9000000000000000000) : wrap64 ((i : Int) + 1) = ((i + 1 : Nat) : Int) := by rw [w_id] <;> omega
theorem good_ok (l : List S23) (hl : l.length < 1000000) : ∀ (d i : Nat), i + d = l.length → ∀ k, gauss_Good.l0 (k + d + 1) l l.length i = some (allg (l.drop i)) := by
  intro d
  induction d with
  | zero =>
    intro i hi k
    obtain rfl : i = l.length := by omega
    rw [show k + 0 + 1 = k + 1 by omega, gauss_Cross.good_end, List.drop_length]
    rfl
  | succ d ih =>
    intro i hi k
    have h := ih (i + 1) (by omega) k
    rw [show k + (d + 1) + 1 = (k + d + 1) + 1 by omega, gauss_Cross.good_step _ l l.length i (by omega) rfl hl, allg_drop l i (by omega), h]
    show (if gauss_Cross.gd (gt l i).f0 (gt l i).f1 = true then _ else _) = _
    cases gauss_Cross.gd (gt l i).f0 (gt l i).f1 <;> simp
theorem good_all (l : List S23) (hl : l.length < 1000000) (k : Nat) (hk : l.length + 1 ≤ k) : gauss_Good.f k l = some (allg l) := by
  obtain ⟨m, rfl⟩ : ∃ m, k = m + l.length + 1 := ⟨k - l.length - 1, by omega⟩
  exact good_ok l hl l.length 0 (by omega) m
theorem all_ok (l : List S23) (hl : l.length < 1000000) : ∀ (d i : Nat), i + d = l.length → ∀ k, calamusref10_All.l0 (k + d + 1) l l.length i = some (allg (l.drop i)) := by
  intro d
  induction d with
  | zero =>
    intro i hi k
    obtain rfl : i = l.length := by omega
    rw [show k + 0 + 1 = k + 1 by omega]
    simp only [calamusref10_All.l0]
    rw [if_neg (by omega), List.drop_length]
    rfl
  | succ d ih =>
    intro i hi k
    have h := ih (i + 1) (by omega) k
    rw [show k + (d + 1) + 1 = (k + d + 1) + 1 by omega]
    generalize k + d + 1 = m at h
    simp only [calamusref10_All.l0]
    rw [if_pos (by omega), if_pos (by omega), if_pos (by omega), rdP, ref_gd, bs, wn i (by omega), h, allg_drop l i (by omega)]
    cases gauss_Cross.gd (gt l i).f0 (gt l i).f1 <;> simp
theorem ref_all (l : List S23) (hl : l.length < 1000000) (k : Nat) (hk : l.length + 1 ≤ k) : calamusref10_All.f k l = some (allg l) := by
  obtain ⟨m, rfl⟩ : ∃ m, k = m + l.length + 1 := ⟨k - l.length - 1, by omega⟩
  exact all_ok l hl l.length 0 (by omega) m
theorem same10_ok (a : List S23) (ha : a.length < 9000000000000000000) : ∀ k, a.length + 1 ≤ k → calamusref10_Same.f k a a = some true := by
  have key : ∀ (d i : Nat), i + d = a.length → ∀ k, calamusref10_Same.l0 (k + d + 1) a a a.length i = some true := by
    intro d
    induction d with
    | zero =>
      intro i hi k
      rw [show k + 0 + 1 = k + 1 by omega]
      simp only [calamusref10_Same.l0]
      rw [if_neg (by omega)]
    | succ d ih =>
      intro i hi k
      have h := ih (i + 1) (by omega) k
      rw [show k + (d + 1) + 1 = (k + d + 1) + 1 by omega]
      generalize k + d + 1 = m at h
      simp only [calamusref10_Same.l0]
      rw [if_pos (by omega), if_pos (by omega), if_pos (by omega), if_pos (by omega), if_neg (by simp), wn i (by omega), h]
  intro k hk
  obtain ⟨m, rfl⟩ : ∃ m, k = m + a.length + 1 := ⟨k - a.length - 1, by omega⟩
  unfold calamusref10_Same.f
  rw [if_pos rfl]
  exact key a.length 0 (by omega) m
theorem cr_bd {a b : S23} (h1 : Bd a.f0) (h2 : Bd a.f1) (h3 : Bd b.f0) (h4 : Bd b.f1) : -35184372088832 ≤ cr a b ∧ cr a b ≤ 35184372088832 := by
  have := mul_bd h1 h4
  have := mul_bd h2 h3
  unfold cr
  omega
theorem sumN_bd {f : Nat → Int} {B : Int} : ∀ (n : Nat), (∀ i, i < n → -B ≤ f i ∧ f i ≤ B) → -(n * B) ≤ sumN f n ∧ sumN f n ≤ n * B
  | 0, _ => by simp [sumN]
  | n + 1, h => by
    have := sumN_bd n (fun i hi => h i (by omega))
    have := h n (by omega)
    have e : ((n + 1 : Nat) : Int) * B = n * B + B := by rw [Int.natCast_add, Int.add_mul]; simp
    rw [e]
    simp only [sumN]
    omega
/-- Sums of at most 4096 products don't wrap. -/
theorem sumN_small {f : Nat → Int} {n : Nat} (hn : n ≤ 4097) (h : ∀ i, i < n → -35184372088832 ≤ f i ∧ f i ≤ 35184372088832) : -9223372036854775808 < sumN f n ∧ sumN f n < 9223372036854775807 := by
  have h1 := sumN_bd n h
  have h2 : (n : Int) * 35184372088832 ≤ 4097 * 35184372088832 := Int.mul_le_mul_of_nonneg_right (by omega) (by omega)
  omega
theorem ref_area (l : List S23) (hl : l.length ≤ 4096) (hg : allg l = true) : ∀ k, l.length + 1 ≤ k → calamusref10_Area.f k l = some (ar l) := by
  have hc : ∀ i, i < l.length → -35184372088832 ≤ cr (gt l i) (gt l ((i + 1) % l.length)) ∧ cr (gt l i) (gt l ((i + 1) % l.length)) ≤ 35184372088832 := fun i hi =>
    cr_bd (allg_at hg i hi).1 (allg_at hg i hi).2 (allg_at hg _ (Nat.mod_lt _ (by omega))).1 (allg_at hg _ (Nat.mod_lt _ (by omega))).2
  have key : ∀ (d i : Nat), i + d = l.length → ∀ k, calamusref10_Area.l0 (k + d + 1) l (sumN (fun i => cr (gt l i) (gt l ((i + 1) % l.length))) i) l.length i = some (ar l) := by
    intro d
    induction d with
    | zero =>
      intro i hi k
      obtain rfl : i = l.length := by omega
      rw [show k + 0 + 1 = k + 1 by omega]
      simp only [calamusref10_Area.l0]
      rw [if_neg (by omega)]
      rfl
    | succ d ih =>
      intro i hi k
      have h := ih (i + 1) (by omega) k
      have hlt : i < l.length := by omega
      have hml := Nat.mod_lt (i + 1) (show 0 < l.length by omega)
      have hm : Int.tmod (wrap64 ((i : Int) + 1)) (l.length : Int) = (((i + 1) % l.length : Nat) : Int) := by rw [wn i (by omega)]; rfl
      have h1 := allg_at hg i hlt
      have h2 := allg_at hg _ hml
      have hs := sumN_small (f := fun i => cr (gt l i) (gt l ((i + 1) % l.length))) (n := i + 1) (by omega) (fun j hj => hc j (by omega))
      rw [show k + (d + 1) + 1 = (k + d + 1) + 1 by omega]
      generalize k + d + 1 = m at h
      simp only [calamusref10_Area.l0]
      rw [if_pos (by omega), if_pos (by omega), if_pos (by omega), if_neg (by omega), hm, if_pos (by omega), if_pos (by omega), rdP, rdP, ref_cross h1.1 h1.2 h2.1 h2.2, bs, wn i (by omega)]
      simp only [sumN] at hs h
      show calamusref10_Area.l0 m l (wrap64 (_ + cr (gt l i) (gt l ((i + 1) % l.length)))) _ _ = _
      rw [w_id (by omega) (by omega)]
      exact h
  intro k hk
  obtain ⟨m, rfl⟩ : ∃ m, k = m + l.length + 1 := ⟨k - l.length - 1, by omega⟩
  exact key l.length 0 (by omega) m
/-- The program's sum: it begins with the last point. -/
theorem st_ok (l : List S23) (hn : 0 < l.length) (hl : l.length ≤ 4096) (hg : allg l = true) : ∀ j, j < l.length → gauss_Area.st l (gt l (l.length - 1)) (j + 1) = (cr (gt l (l.length - 1)) (gt l 0) + sumN (fun i => cr (gt l i) (gt l (i + 1))) j, gt l j) := by
  have hc0 := cr_bd (allg_at hg (l.length - 1) (by omega)).1 (allg_at hg (l.length - 1) (by omega)).2 (allg_at hg 0 hn).1 (allg_at hg 0 hn).2
  intro j
  induction j with
  | zero =>
    intro hj
    have e : wrap64 (0 + cr (gt l (l.length - 1)) (gt l 0)) = cr (gt l (l.length - 1)) (gt l 0) + 0 := by rw [w_id] <;> omega
    show (wrap64 (0 + cr (gt l (l.length - 1)) (gt l 0)), gt l 0) = _
    rw [e]
    rfl
  | succ j ih =>
    intro hj
    have h := ih (by omega)
    have hb := sumN_bd (f := fun i => cr (gt l i) (gt l (i + 1))) (B := 35184372088832) (j + 1) (fun i hi => cr_bd (allg_at hg i (by omega)).1 (allg_at hg i (by omega)).2 (allg_at hg (i + 1) (by omega)).1 (allg_at hg (i + 1) (by omega)).2)
    have h2 : ((j + 1 : Nat) : Int) * 35184372088832 ≤ 4096 * 35184372088832 := Int.mul_le_mul_of_nonneg_right (by omega) (by omega)
    rw [gauss_Area.st, h]
    simp only [sumN] at hb ⊢
    show (wrap64 (_ + cr (gt l j) (gt l (j + 1))), gt l (j + 1)) = _
    rw [w_id (by omega) (by omega), Int.add_assoc]
theorem sumN_congr {f g : Nat → Int} : ∀ n, (∀ i, i < n → f i = g i) → sumN f n = sumN g n
  | 0, _ => rfl
  | n + 1, h => by simp only [sumN]; rw [sumN_congr n (fun i hi => h i (by omega)), h n (by omega)]
theorem area_ok (l : List S23) (hl : l.length ≤ 4096) (hg : allg l = true) : ∀ k, l.length + 1 ≤ k → gauss_Area.f k l = some (ar l, 0) := by
  intro k hk
  unfold gauss_Area.f
  rw [if_neg (by omega), good_all l (by omega) k hk, bs, hg, if_pos rfl]
  by_cases h0 : l.length = 0
  · rw [if_pos (by omega)]
    unfold ar
    rw [h0]
    rfl
  · obtain ⟨n, hn⟩ : ∃ n, l.length = n + 1 := ⟨l.length - 1, by omega⟩
    rw [if_neg (by omega)]
    congr 2
    have h := st_ok l (by omega) hl hg n (by omega)
    show (gauss_Area.st l (gt l (l.length - 1)) l.length).1 = _
    rw [hn] at h ⊢
    rw [h]
    unfold ar
    rw [hn]
    simp only [sumN, Nat.mod_self, Nat.add_sub_cancel]
    rw [Int.add_comm]
    congr 1
    exact sumN_congr n (fun i hi => by rw [Nat.mod_eq_of_lt (by omega)])
end Go.Proofs.Ytgibokbkobcnaaa.G.Base
