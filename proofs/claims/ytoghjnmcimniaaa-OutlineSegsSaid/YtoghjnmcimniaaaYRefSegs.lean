/- The document's pieces of a contour (calamusref11.Segs) are the same list. -/
import Derived.Test.YtoghjnmcimniaaaYSegsChain
namespace Go.Proofs.Ytoghjnmcimniaaa.O.Base
open Go.RowKit Go.Proofs.YtoghjnmcimniaaaW.PrintWords Go.Proofs.YtoghjnmcimniaaaW.PrintLast Go.Proofs.YtoghjnmcimniaaaW.PrintMore Go.Proofs.Ytoghjnmcimniaaa.O
set_option linter.unusedVariables false
set_option linter.unusedSimpArgs false

abbrev Kn := S39
def on_ (p : S33) : S39 := ⟨p.f0, p.f1, true⟩
theorem pl_on (p : S33) : pl (on_ p) = p := rfl
/-- The pieces of a way of knots and middles. -/
def sg2 : S33 → List S39 → List S37
  | _, [] => []
  | from_, [k] => if k.f2 = true then (mk false from_ ⟨0, 0⟩ (pl k)).toList else []
  | from_, k :: k2 :: rest => if k.f2 = true then (mk false from_ ⟨0, 0⟩ (pl k)).toList ++ sg2 (pl k) (k2 :: rest) else (mk true from_ (pl k) (pl k2)).toList ++ sg2 (pl k2) rest
theorem sg2_on (f : S33) (k : S39) (r : List S39) (h : k.f2 = true) : sg2 f (k :: r) = (mk false f ⟨0, 0⟩ (pl k)).toList ++ sg2 (pl k) r := by
  cases r with
  | nil => simp [sg2, h]
  | cons a r => simp [sg2, h]
theorem sg2_off (f : S33) (k k2 : S39) (r : List S39) (h : k.f2 = false) : sg2 f (k :: k2 :: r) = (mk true f (pl k) (pl k2)).toList ++ sg2 (pl k2) r := by
  simp [sg2, h]
/-- What is added to the way: m knots from window i on. -/
def wy (l : List S39) : Nat → Nat → List S39
  | _, 0 => []
  | i, m + 1 => (if (at_ l (i + 1)).f2 = false ∧ (at_ l (i + 2)).f2 = false then [on_ (mm (pl (at_ l (i + 1))) (pl (at_ l (i + 2))))] else []) ++ [at_ l (i + 2)] ++ wy l (i + 1) m
theorem wy_pieces (l : List S39) : ∀ (m i : Nat) (e : S33), e = eb (at_ l (i + m + 1)) (at_ l (i + m + 2)) → ((at_ l (i + m + 1)).f2 = true → (at_ l (i + m + 2)).f2 = true) →
    (if (at_ l (i + 1)).f2 = true then sg2 (pl (at_ l (i + 1))) (wy l i m ++ [on_ e]) else sg2 (ea (at_ l i) (at_ l (i + 1))) (at_ l (i + 1) :: (wy l i m ++ [on_ e]))) = pcs l i (m + 1) := by
  intro m
  induction m with
  | zero =>
    intro i e he hc
    rw [show i + 0 + 1 = i + 1 by omega, show i + 0 + 2 = i + 2 by omega] at he hc
    simp only [wy, List.nil_append, pcs, List.append_nil]
    unfold pc
    cases hb : (at_ l (i + 1)).f2
    · rw [if_neg (by simp), if_neg (by simp), sg2_off _ _ _ _ hb, pl_on, he]
      simp [sg2]
    · rw [if_pos rfl, if_pos rfl, if_pos (hc hb), sg2_on _ _ _ rfl, pl_on, he]
      unfold eb
      rw [if_pos (hc hb)]
      simp [sg2]
  | succ m ih =>
    intro i e he hc
    have h := ih (i + 1) e (by rw [he, show i + (m + 1) + 1 = i + 1 + m + 1 by omega, show i + (m + 1) + 2 = i + 1 + m + 2 by omega]) (by rw [show i + 1 + m + 1 = i + (m + 1) + 1 by omega, show i + 1 + m + 2 = i + (m + 1) + 2 by omega]; exact hc)
    rw [show i + 1 + 1 = i + 2 by omega] at h
    rw [pcs, ← h, wy]
    unfold pc
    cases hb : (at_ l (i + 1)).f2
    · cases hcc : (at_ l (i + 2)).f2
      · simp only [Bool.false_eq_true, if_false, and_self, if_true, List.append_assoc, List.cons_append, List.nil_append]
        rw [sg2_off _ _ _ _ hb, pl_on]
        unfold eb
        rw [hcc]
        simp only [Bool.false_eq_true, if_false]
        congr 1
        show sg2 _ _ = sg2 (ea _ _) _
        unfold ea
        rw [hb]
        rfl
      · simp only [Bool.false_eq_true, Bool.true_eq_false, if_false, and_false, if_true, List.append_assoc, List.cons_append, List.nil_append]
        rw [sg2_off _ _ _ _ hb]
        unfold eb
        rw [hcc]
        rfl
    · cases hcc : (at_ l (i + 2)).f2
      · simp only [Bool.false_eq_true, Bool.true_eq_false, if_false, false_and, if_true, List.append_assoc, List.cons_append, List.nil_append, Option.toList_none]
        unfold ea
        rw [hb]
        rfl
      · simp only [Bool.true_eq_false, if_false, false_and, if_true, List.append_assoc, List.cons_append, List.nil_append]
        rw [sg2_on _ _ _ hcc]
theorem wy_len (l : List S39) : ∀ (m i : Nat), m ≤ (wy l i m).length ∧ (wy l i m).length ≤ 2 * m
  | 0, _ => by simp [wy]
  | m + 1, i => by
    have h := wy_len l m (i + 1)
    rw [wy]
    split <;> simp <;> omega

/-! The loops. -/
theorem rdK (l : List S39) (i : Nat) : rd_T39 l (i : Int) = l.getD i z39 := by
  show l.getD (i : Int).toNat _ = _
  rw [Int.toNat_natCast]
theorem wN (i : Nat) (h : i < 100000000) : wrap64 ((i : Int) + 1) = ((i + 1 : Nat) : Int) := by rw [w_id] <;> omega
theorem wP (i : Nat) (h0 : 0 < i) (h : i < 100000000) : wrap64 ((i : Int) - 1) = ((i - 1 : Nat) : Int) := by rw [w_id] <;> omega
theorem getD_app_last (a : List S39) (x z : S39) : (a ++ [x]).getD ((a ++ [x]).length - 1) z = x := by
  rw [List.length_append, List.length_singleton, Nat.add_sub_cancel, List.getD_eq_getElem?_getD, List.getElem?_append_right (Nat.le_refl _)]
  simp
theorem l2_len (k : Nat) : 0 < k + 1 := by omega
/-- The last loop: a way that ends on the curve. -/
theorem r2_ok (y : List S39) (hy : y.length < 10000000) (hl : ∀ h : 0 < y.length, (y[y.length - 1]).f2 = true) : ∀ (d i : Nat), i + d = y.length → ∀ (out : List S37) (a b : Int), out.length ≤ i →
    ∃ K, ∀ k, K ≤ k → calamusref11_Segs.l2 k y out i a b = some (out ++ sg2 ⟨a, b⟩ (y.drop i)) := by
  intro d
  induction d using Nat.strongRecOn with
  | ind d ih =>
  intro i hi out a b ho
  by_cases h0 : d = 0
  · subst h0
    refine ⟨1, fun k hk => ?_⟩
    obtain ⟨k, rfl⟩ : ∃ m, k = m + 1 := ⟨k - 1, by omega⟩
    simp only [calamusref11_Segs.l2]
    rw [if_neg (by omega), List.drop_of_length_le (by omega)]
    simp [sg2]
  · have hlt : i < y.length := by omega
    have hr : rd_T39 y (i : Int) = y[i] := by
      rw [rdK, List.getD_eq_getElem?_getD, List.getElem?_eq_getElem hlt]; rfl
    -- what stands behind the choice, at position j (the piece's end), from a, b, with a control or none
    have fin : ∀ (j : Nat) (hj : j < y.length) (hij : i ≤ j) (cv : Bool) (cx cy : Int), (cv = false → cx = 0 ∧ cy = 0) → ∃ K, ∀ k, K ≤ k → calamusref11_Segs.j6 k y out j a b cx cy 0 0 cv = some (out ++ ((mk cv ⟨a, b⟩ ⟨cx, cy⟩ (pl y[j])).toList ++ sg2 (pl y[j]) (y.drop (j + 1)))) := by
      intro j hj hij cv cx cy hcv
      have hrj : rd_T39 y (j : Int) = y[j] := by
        rw [rdK, List.getD_eq_getElem?_getD, List.getElem?_eq_getElem hj]; rfl
      have hml : (mk cv ⟨a, b⟩ ⟨cx, cy⟩ (pl y[j])).toList.length ≤ 1 := by cases mk cv ⟨a, b⟩ ⟨cx, cy⟩ (pl y[j]) <;> simp
      obtain ⟨K, hK⟩ := ih (y.length - (j + 1)) (by omega) (j + 1) (by omega) (out ++ (mk cv ⟨a, b⟩ ⟨cx, cy⟩ (pl y[j])).toList) y[j].f0 y[j].f1 (by rw [List.length_append]; omega)
      refine ⟨K + 2, fun k hk => ?_⟩
      obtain ⟨k, rfl⟩ : ∃ m, k = m + 2 := ⟨k - 2, by omega⟩
      have hK' := hK k (by omega)
      rw [List.append_assoc] at hK'
      rw [← show sg2 ⟨y[j].f0, y[j].f1⟩ (y.drop (j + 1)) = sg2 (pl y[j]) (y.drop (j + 1)) from rfl, ← hK']
      simp only [calamusref11_Segs.j6]
      rw [if_pos (by omega), if_pos (by omega), hrj]
      unfold calamusref11_at.f
      rw [bs]
      have hj7 : ∀ (x165 : Bool), (x165 = true ↔ mk cv ⟨a, b⟩ ⟨cx, cy⟩ (pl y[j]) = some ⟨⟨a, b⟩, ⟨cx, cy⟩, pl y[j], cv⟩) → (x165 = false → mk cv ⟨a, b⟩ ⟨cx, cy⟩ (pl y[j]) = none) →
          calamusref11_Segs.j7 (k + 1) y out j x165 y[j].f0 y[j].f1 a b cx cy y[j].f0 y[j].f1 cv = calamusref11_Segs.l2 k y (out ++ (mk cv ⟨a, b⟩ ⟨cx, cy⟩ (pl y[j])).toList) ((j + 1 : Nat) : Int) y[j].f0 y[j].f1 := by
        intro x165 h1 h2
        simp only [calamusref11_Segs.j7]
        rw [wN j (by omega)]
        cases x165
        · rw [if_neg (by simp), h2 rfl]
          simp
        · rw [if_pos rfl, if_pos (by omega), h1.1 rfl]
          rfl
      have hC : (if cv = true then (⟨cx, cy⟩ : S33) else ⟨0, 0⟩) = ⟨cx, cy⟩ := by
        cases cv
        · obtain ⟨e1, e2⟩ := hcv rfl
          rw [e1, e2]; rfl
        · rfl
      by_cases e1 : (⟨a, b⟩ : S33) = pl y[j]
      · have e1' : a = y[j].f0 ∧ b = y[j].f1 := by unfold pl at e1; injection e1 with p q; exact ⟨p, q⟩
        rw [if_neg (by simp [e1'.1, e1'.2])]
        cases cv
        · rw [if_neg (by simp)]
          refine hj7 false ⟨fun h => (by cases h), fun h => ?_⟩ (fun _ => ?_)
          · unfold mk at h; rw [if_neg (by simp [e1])] at h; cases h
          · unfold mk; rw [if_neg (by simp [e1])]
        · rw [if_pos rfl]
          by_cases e2 : (⟨cx, cy⟩ : S33) = ⟨a, b⟩
          · have e2' : cx = a ∧ cy = b := by injection e2 with p q; exact ⟨p, q⟩
            refine hj7 _ ⟨fun h => ?_, fun h => ?_⟩ (fun _ => ?_)
            · simp [e2'.1, e2'.2] at h
            · unfold mk at h; rw [if_neg (by simp [e1, e2])] at h; cases h
            · unfold mk; rw [if_neg (by rw [e2]; simp [e1])]
          · refine hj7 _ ⟨fun h => ?_, fun h => ?_⟩ (fun h => ?_)
            · unfold mk; rw [if_pos (.inr ⟨rfl, e2⟩)]; rfl
            · have : ¬ (cx = a ∧ cy = b) := fun ⟨p, q⟩ => e2 (by rw [p, q])
              by_cases p : cx = a
              · have q : ¬ cy = b := fun q => this ⟨p, q⟩
                simp [p, q]
              · simp [p]
            · exfalso
              have : cx = a ∧ cy = b := by simpa using h
              exact e2 (by rw [this.1, this.2])
      · have e1' : ¬ (a = y[j].f0 ∧ b = y[j].f1) := fun ⟨p, q⟩ => e1 (by unfold pl; rw [← p, ← q])
        rw [if_pos (by
          by_cases p : a = y[j].f0
          · have q : ¬ b = y[j].f1 := fun q => e1' ⟨p, q⟩
            simp [q]
          · simp [p])]
        refine hj7 true ⟨fun _ => ?_, fun _ => rfl⟩ (fun h => by cases h)
        unfold mk
        rw [if_pos (.inl e1), hC]
    cases hc : y[i].f2
    · have hlast : i + 1 < y.length := by
        by_cases e : i + 1 < y.length
        · exact e
        · have := hl (by omega)
          have ei : y.length - 1 = i := by omega
          simp only [ei, hc] at this
          cases this
      obtain ⟨K, hK⟩ := fin (i + 1) hlast (by omega) true y[i].f0 y[i].f1 (fun h => by cases h)
      refine ⟨K + 1, fun k hk => ?_⟩
      obtain ⟨k, rfl⟩ : ∃ m, k = m + 1 := ⟨k - 1, by omega⟩
      simp only [calamusref11_Segs.l2]
      rw [if_pos (by omega), if_pos (by omega), hr, hc, if_neg (by simp), wN i (by omega)]
      unfold calamusref11_at.f
      rw [bs]
      refine (hK k (by omega)).trans ?_
      rw [List.drop_eq_getElem_cons hlt, List.drop_eq_getElem_cons hlast, sg2_off _ _ _ _ hc]
      rfl
    · obtain ⟨K, hK⟩ := fin i hlt (Nat.le_refl _) false 0 0 (fun _ => ⟨rfl, rfl⟩)
      refine ⟨K + 1, fun k hk => ?_⟩
      obtain ⟨k, rfl⟩ : ∃ m, k = m + 1 := ⟨k - 1, by omega⟩
      simp only [calamusref11_Segs.l2]
      rw [if_pos (by omega), if_pos (by omega), hr, hc, if_pos rfl]
      refine (hK k (by omega)).trans ?_
      rw [List.drop_eq_getElem_cons hlt, sg2_on _ _ _ hc]
/-- What stands behind the way: it is closed, and its pieces are taken. -/
theorem r1_end (l : List S39) (f : Int) (a : S39) (w : List S39) (ha : a.f2 = true) (hw : w.length < 1000000) (i : Int) (hi : ¬ i < (l.length : Int)) :
    ∃ K, ∀ k, K ≤ k → calamusref11_Segs.l1 k l f (a :: w) i = some (sg2 (pl a) (w ++ [a])) := by
  have hlast : ∀ h : 0 < ((a :: w) ++ [a]).length, (((a :: w) ++ [a])[((a :: w) ++ [a]).length - 1]).f2 = true := by
    intro h
    simp [ha]
  obtain ⟨K, hK⟩ := r2_ok ((a :: w) ++ [a]) (by simp; omega) hlast (((a :: w) ++ [a]).length - 1) 1 (by simp; omega) [] a.f0 a.f1 (by simp)
  refine ⟨K + 1, fun k hk => ?_⟩
  obtain ⟨k, rfl⟩ : ∃ m, k = m + 1 := ⟨k - 1, by omega⟩
  simp only [calamusref11_Segs.l1]
  have h0 : rd_T39 (a :: w) 0 = a := rfl
  have h1 : rd_T39 ((a :: w) ++ [a]) 0 = a := rfl
  rw [if_neg hi, if_pos (by simp), if_pos (by simp; omega), h0, bs, if_pos (by simp; omega)]
  rw [show (⟨a.f0, a.f1, a.f2⟩ : S39) = a from rfl, h1]
  unfold calamusref11_at.f
  rw [bs]
  have := hK k (by omega)
  show _ = some (sg2 ⟨a.f0, a.f1⟩ (w ++ [a]))
  simpa using this
/-- The loop that makes the way. -/
theorem r1_ok (l : List S39) (hn : 0 < l.length) (hL : l.length < 100000) (hG : ∀ k ∈ l, GK k) (f : Nat) (hf : f < l.length) (a : S39) (ha : a.f2 = true) :
    ∀ (d i p : Nat) (w : List S39), i + d = l.length → p + 2 = f + l.length * 2 + i → w.length ≤ 2 * i → (a :: w).getD ((a :: w).length - 1) z39 = at_ l (p + 1) →
      ∃ K, ∀ k, K ≤ k → calamusref11_Segs.l1 k l f (a :: w) i = some (sg2 (pl a) (w ++ wy l p d ++ [a])) := by
  intro d
  induction d with
  | zero =>
    intro i p w hi hp hw hl
    simp only [wy, List.append_nil]
    exact r1_end l f a w ha (by omega) i (by omega)
  | succ d ih =>
    intro i p w hi hp hw hl
    have hlt : i < l.length := by omega
    have hwr : wrap64 ((f : Int) + (i : Int)) = ((f + i : Nat) : Int) := by rw [w_id] <;> omega
    have hm : Int.tmod (wrap64 ((f : Int) + (i : Int))) (l.length : Int) = (((f + i) % l.length : Nat) : Int) := by rw [hwr]; rfl
    have hml := Nat.mod_lt (f + i) hn
    have hr : rd_T39 l (((f + i) % l.length : Nat) : Int) = at_ l (p + 2) := by
      rw [rdK]
      unfold at_
      rw [hp, show f + l.length * 2 + i = f + i + l.length * 2 by omega, Nat.add_mul_mod_self_left]
      rfl
    have hlen : (a :: w).length = w.length + 1 := rfl
    have hwl : wrap64 (((a :: w).length : Int) - 1) = (((a :: w).length - 1 : Nat) : Int) := wP _ (by omega) (by omega)
    have hrl : rd_T39 (a :: w) (((a :: w).length - 1 : Nat) : Int) = at_ l (p + 1) := by rw [rdK]; exact hl
    have gb := hG _ (at_mem l hn (p + 1))
    have gc := hG _ (at_mem l hn (p + 2))
    -- the next round
    have hnext : ∀ (w' : List S39), w'.length ≤ w.length + 2 → (a :: w').getD ((a :: w').length - 1) z39 = at_ l (p + 2) → w' ++ wy l (p + 1) d = w ++ wy l p (d + 1) →
        ∃ K, ∀ k, K ≤ k → calamusref11_Segs.l1 k l f (a :: w') ((i + 1 : Nat) : Int) = some (sg2 (pl a) (w ++ wy l p (d + 1) ++ [a])) := by
      intro w' h1 h2 h3
      obtain ⟨K, hK⟩ := ih (i + 1) (p + 1) w' (by omega) (by omega) (by omega) h2
      rw [h3] at hK
      exact ⟨K, hK⟩
    -- one more knot
    have hone : ∀ (x : List S39) (q : S39), (a :: (x ++ [q])).getD ((a :: (x ++ [q])).length - 1) z39 = q := fun x q => getD_app_last (a :: x) q _
    have hj4 : (at_ l (p + 1)).f2 = true ∨ (at_ l (p + 2)).f2 = true → ∃ K, ∀ k, K ≤ k → calamusref11_Segs.j4 k l f (a :: w) i false (at_ l (p + 2)).f0 (at_ l (p + 2)).f1 (at_ l (p + 2)).f2 = some (sg2 (pl a) (w ++ wy l p (d + 1) ++ [a])) := by
      intro hor
      obtain ⟨K, hK⟩ := hnext (w ++ [at_ l (p + 2)]) (by simp) (hone _ _) (by
        rw [wy, if_neg (by rintro ⟨h1, h2⟩; rcases hor with h | h <;> simp_all)]
        simp)
      refine ⟨K + 1, fun k hk => ?_⟩
      obtain ⟨k, rfl⟩ : ∃ m, k = m + 1 := ⟨k - 1, by omega⟩
      simp only [calamusref11_Segs.j4]
      rw [if_neg (by simp), if_pos (by omega), wN i (by omega)]
      exact hK k (by omega)
    have hj4' : (at_ l (p + 1)).f2 = false → (at_ l (p + 2)).f2 = false → ∃ K, ∀ k, K ≤ k → calamusref11_Segs.j4 k l f (a :: w) i true (at_ l (p + 2)).f0 (at_ l (p + 2)).f1 (at_ l (p + 2)).f2 = some (sg2 (pl a) (w ++ wy l p (d + 1) ++ [a])) := by
      intro h1 h2
      obtain ⟨K, hK⟩ := hnext ((w ++ [on_ (mm (pl (at_ l (p + 1))) (pl (at_ l (p + 2))))]) ++ [at_ l (p + 2)]) (by simp) (hone _ _) (by
        rw [wy, if_pos ⟨h1, h2⟩]
        simp)
      refine ⟨K + 1, fun k hk => ?_⟩
      obtain ⟨k, rfl⟩ : ∃ m, k = m + 1 := ⟨k - 1, by omega⟩
      simp only [calamusref11_Segs.j4]
      rw [if_pos trivial, hwl, if_pos (by omega), if_pos (by omega), hrl]
      unfold calamusref11_at.f
      rw [bs, bs, ref_mid_ok gb.1 gb.2 gc.1 gc.2, bs, if_pos (by omega), bs, if_pos (by simp; omega), wN i (by omega)]
      exact hK k (by omega)
    have key : ∃ K, ∀ k, K ≤ k → (if (at_ l (p + 2)).f2 = true then calamusref11_Segs.j4 k l f (a :: w) i false (at_ l (p + 2)).f0 (at_ l (p + 2)).f1 (at_ l (p + 2)).f2 else calamusref11_Segs.j4 k l f (a :: w) i (!(at_ l (p + 1)).f2) (at_ l (p + 2)).f0 (at_ l (p + 2)).f1 (at_ l (p + 2)).f2) = some (sg2 (pl a) (w ++ wy l p (d + 1) ++ [a])) := by
      cases hc : (at_ l (p + 2)).f2
      · rw [hc] at hj4 hj4'
        cases hb : (at_ l (p + 1)).f2
        · obtain ⟨K, hK⟩ := hj4' hb rfl
          exact ⟨K, fun k hk => by rw [if_neg (by simp)]; exact hK k hk⟩
        · obtain ⟨K, hK⟩ := hj4 (.inl hb)
          exact ⟨K, fun k hk => by rw [if_neg (by simp)]; exact hK k hk⟩
      · rw [hc] at hj4
        obtain ⟨K, hK⟩ := hj4 (.inr rfl)
        exact ⟨K, fun k hk => by rw [if_pos rfl]; exact hK k hk⟩
    obtain ⟨K, hK⟩ := key
    refine ⟨K + 1, fun k hk => ?_⟩
    obtain ⟨k, rfl⟩ : ∃ m, k = m + 1 := ⟨k - 1, by omega⟩
    refine Eq.trans ?_ (hK k (by omega))
    simp only [calamusref11_Segs.l1]
    rw [if_pos (by omega), if_neg (by omega), hm, if_pos (by omega), if_pos (by omega), if_pos (by omega), hr]
    by_cases hc : (at_ l (p + 2)).f2 = true
    · rw [if_pos hc, if_pos hc]
    · rw [if_neg hc, if_neg hc, hwl, if_pos (by omega), if_pos (by omega), hrl]
/-- The first knot on the curve. -/
theorem r0_ok (l : List S39) (hL : l.length < 100000) (R : Option (List S37)) : ∀ (d i : Nat), i + d = l.length → (∀ j, j < i → (l.getD j z39).f2 = false) →
    ((∃ f : Nat, f < l.length ∧ (l.getD f z39).f2 = true ∧ (∀ j, j < f → (l.getD j z39).f2 = false) ∧ ∃ K, ∀ k, calamusref11_Segs.l0 (k + K) l i = calamusref11_Segs.j1 k l f false) ∨
      ((∀ j, j < l.length → (l.getD j z39).f2 = false) ∧ ∃ K, ∀ k, calamusref11_Segs.l0 (k + K) l i = calamusref11_Segs.j1 k l l.length false)) := by
  intro d
  induction d with
  | zero =>
    intro i hi hb
    refine .inr ⟨fun j hj => hb j (by omega), 1, fun k => ?_⟩
    simp only [calamusref11_Segs.l0]
    rw [if_neg (by omega), show i = l.length by omega]
  | succ d ih =>
    intro i hi hb
    cases hc : (l.getD i z39).f2
    · have hstep : ∀ K k, calamusref11_Segs.l0 (k + (K + 2)) l i = calamusref11_Segs.l0 (k + K) l ((i + 1 : Nat) : Int) := by
        intro K k
        rw [show k + (K + 2) = (k + K) + 2 by omega]
        simp only [calamusref11_Segs.l0]
        rw [if_pos (by omega), if_pos (by omega), rdK, hc]
        simp only [calamusref11_Segs.j1]
        rw [if_pos (by rfl), wN i (by omega)]
      rcases ih (i + 1) (by omega) (fun j hj => by
        rcases Nat.lt_or_ge j i with h | h
        · exact hb j h
        · obtain rfl : j = i := by omega
          exact hc) with ⟨f, h1, h2, h3, K, hK⟩ | ⟨h1, K, hK⟩
      · exact .inl ⟨f, h1, h2, h3, K + 2, fun k => (hstep K k).trans (hK k)⟩
      · exact .inr ⟨h1, K + 2, fun k => (hstep K k).trans (hK k)⟩
    · refine .inl ⟨i, by omega, hc, hb, 1, fun k => ?_⟩
      simp only [calamusref11_Segs.l0]
      rw [if_pos (by omega), if_pos (by omega), rdK, hc]
      rfl
theorem ref_segs_ok (l : List S39) (hn : 0 < l.length) (hL : l.length < 100000) (hG : ∀ k ∈ l, GK k) :
    ∃ f : Nat, f < l.length ∧ ((at_ l f).f2 = true ∧ (∀ j, j < f → (at_ l j).f2 = false) ∨ f = 0 ∧ ∀ i, (at_ l i).f2 = false) ∧ ∃ K, ∀ k, K ≤ k → calamusref11_Segs.f k l = some (pcs l (f + 2 * l.length - 1) l.length) := by
  have hl0 : ¬ ((l.length : Int) = 0) := by omega
  -- the first round, from whatever stands ahead
  have hfirst : ∀ (f : Nat) (hf : f < l.length) (k : Nat), calamusref11_Segs.l1 (k + 2) l f [] 0 = calamusref11_Segs.l1 k l f [at_ l f] 1 := by
    intro f hf k
    have hwr : wrap64 ((f : Int) + 0) = (f : Int) := by rw [w_id] <;> omega
    have hm : Int.tmod (wrap64 ((f : Int) + 0)) (l.length : Int) = (f : Int) := by
      rw [hwr]
      show (((f % l.length : Nat)) : Int) = f
      rw [Nat.mod_eq_of_lt hf]
    have hr : rd_T39 l (f : Int) = at_ l f := by rw [rdK, at_get l f hf]
    have h1 : wrap64 ((0 : Int) + 1) = 1 := by rw [w_id] <;> omega
    rw [show k + 2 = (k + 1) + 1 by omega]
    simp only [calamusref11_Segs.l1]
    rw [if_pos (by omega), if_neg hl0, hm, if_pos (by omega), if_pos (by omega), if_neg (by simp), hr]
    simp only [calamusref11_Segs.j4]
    rw [if_neg (by simp), if_pos (by simp), h1]
    rfl
  have he1 : ∀ f : Nat, at_ l (f + 2 * l.length - 1 + 1) = at_ l f := fun f => by rw [show f + 2 * l.length - 1 + 1 = f + l.length * 2 by omega, at_per]
  have he0 : ∀ f : Nat, at_ l (f + 2 * l.length - 1) = at_ l (f + l.length - 1) := fun f => by rw [show f + 2 * l.length - 1 = f + l.length - 1 + l.length * 1 by omega, at_per]
  have hen : ∀ f : Nat, at_ l (f + 2 * l.length - 1 + (l.length - 1) + 1) = at_ l (f + l.length - 1) := fun f => by rw [show f + 2 * l.length - 1 + (l.length - 1) + 1 = f + l.length - 1 + l.length * 2 by omega, at_per]
  have hen1 : ∀ f : Nat, at_ l (f + 2 * l.length - 1 + (l.length - 1) + 2) = at_ l f := fun f => by rw [show f + 2 * l.length - 1 + (l.length - 1) + 2 = f + l.length * 3 by omega, at_per]
  rcases r0_ok l hL none l.length 0 (by omega) (fun j hj => by omega) with ⟨f, hf, hon, hmin, K0, hK0⟩ | ⟨hoff, K0, hK0⟩
  · have hon' : (at_ l f).f2 = true := by rw [at_get l f hf]; exact hon
    refine ⟨f, hf, .inl ⟨hon', fun j hj => by rw [at_get l j (by omega)]; exact hmin j hj⟩, ?_⟩
    obtain ⟨K, hK⟩ := r1_ok l hn hL hG f hf (at_ l f) hon' (l.length - 1) 1 (f + 2 * l.length - 1) [] (by omega) (by omega) (by simp) (by rw [he1]; rfl)
    have hw := wy_pieces l (l.length - 1) (f + 2 * l.length - 1) (pl (at_ l f)) (by rw [hen1]; unfold eb; rw [if_pos hon']) (fun _ => by rw [hen1]; exact hon')
    rw [he1, if_pos hon', show l.length - 1 + 1 = l.length by omega, show on_ (pl (at_ l f)) = at_ l f by unfold on_ pl; rw [← hon']] at hw
    refine ⟨K + K0 + 4, fun k hk => ?_⟩
    obtain ⟨m, rfl⟩ : ∃ m, k = (m + 4) + K0 := ⟨k - K0 - 4, by omega⟩
    unfold calamusref11_Segs.f
    rw [if_neg hl0]
    refine (hK0 (m + 4)).trans ?_
    simp only [calamusref11_Segs.j1, calamusref11_Segs.j2]
    rw [if_neg (by simp), if_neg (by omega), hfirst f hf m]
    refine (hK m (by omega)).trans ?_
    rw [List.nil_append, hw]
  · have hoff' : ∀ i, (at_ l i).f2 = false := by
      intro i
      rw [← at_mod, at_get _ _ (Nat.mod_lt i hn)]
      exact hoff _ (Nat.mod_lt i hn)
    refine ⟨0, hn, .inr ⟨rfl, hoff'⟩, ?_⟩
    have g0 := hG _ (at_mem l hn 0)
    have g1 := hG _ (at_mem l hn (l.length - 1))
    generalize hM : on_ (mm (pl (at_ l (l.length - 1))) (pl (at_ l 0))) = M
    have hMon : M.f2 = true := by rw [← hM]; rfl
    obtain ⟨K, hK⟩ := r1_ok l hn hL hG 0 hn M hMon (l.length - 1) 1 (0 + 2 * l.length - 1) [at_ l 0] (by omega) (by omega) (by simp) (by rw [he1]; rfl)
    have hw := wy_pieces l (l.length - 1) (0 + 2 * l.length - 1) (pl M) (by
      rw [hen, hen1, ← hM, pl_on]
      unfold eb
      rw [hoff', if_neg (by simp)]
      congr 2
      rw [show 0 + l.length - 1 = l.length - 1 by omega]) (fun h => by rw [hoff'] at h; cases h)
    rw [he1, hoff' 0, if_neg (by simp), show l.length - 1 + 1 = l.length by omega] at hw
    have hpm : ea (at_ l (0 + 2 * l.length - 1)) (at_ l 0) = pl M := by
      rw [he0, ← hM, pl_on]
      unfold ea
      rw [hoff', if_neg (by simp), show 0 + l.length - 1 = l.length - 1 by omega]
    have hom : on_ (pl M) = M := by unfold on_ pl; rw [← hMon]
    rw [hpm, hom] at hw
    have hwl : wrap64 ((l.length : Int) - 1) = ((l.length - 1 : Nat) : Int) := wP _ (by omega) (by omega)
    have hr1 : rd_T39 l ((l.length - 1 : Nat) : Int) = at_ l (l.length - 1) := by rw [rdK, at_get l _ (by omega)]
    have hr0 : rd_T39 l 0 = at_ l 0 := by rw [at_get l 0 hn]; rfl
    have h1 : wrap64 ((0 : Int) + 1) = 1 := by rw [w_id] <;> omega
    have hwr : wrap64 ((0 : Int) + 0) = 0 := by rw [w_id] <;> omega
    have hm : Int.tmod (wrap64 ((0 : Int) + 0)) (l.length : Int) = 0 := by rw [hwr]; exact Int.zero_tmod _
    have hstep : ∀ k, calamusref11_Segs.l1 (k + 2) l 0 [M] 0 = calamusref11_Segs.l1 k l 0 (M :: [at_ l 0]) 1 := by
      intro k
      rw [show k + 2 = (k + 1) + 1 by omega]
      simp only [calamusref11_Segs.l1]
      have hw1 : wrap64 ((([M] : List S39).length : Int) - 1) = 0 := by show wrap64 ((1 : Int) - 1) = 0; rw [w_id] <;> omega
      have hrM : rd_T39 [M] 0 = M := rfl
      rw [if_pos (by omega), if_neg hl0, hm, if_pos (by omega), if_pos (by omega), if_pos (by simp), hr0, hoff' 0, if_neg (by simp), hw1, if_pos (by omega), if_pos (by simp), hrM, hMon]
      simp only [calamusref11_Segs.j4]
      rw [if_neg (by simp), if_pos (by simp), h1, ← hoff' 0]
      rfl
    refine ⟨K + K0 + 4, fun k hk => ?_⟩
    obtain ⟨m, rfl⟩ : ∃ m, k = (m + 4) + K0 := ⟨k - K0 - 4, by omega⟩
    unfold calamusref11_Segs.f
    rw [if_neg hl0]
    refine (hK0 (m + 4)).trans ?_
    simp only [calamusref11_Segs.j1]
    rw [if_neg (by simp), if_pos trivial, hwl, if_pos (by omega), if_pos (by omega), hr1, hr0]
    unfold calamusref11_at.f
    rw [bs, if_pos (by omega), bs, ref_mid_ok g1.1 g1.2 g0.1 g0.2, bs, if_pos (by simp)]
    simp only [calamusref11_Segs.j2]
    rw [show (([] : List S39) ++ [(⟨(hf (at_ l (l.length - 1)).f0 (at_ l 0).f0, hf (at_ l (l.length - 1)).f1 (at_ l 0).f1).1, (hf (at_ l (l.length - 1)).f0 (at_ l 0).f0, hf (at_ l (l.length - 1)).f1 (at_ l 0).f1).2, true⟩ : S39)]) = [M] by rw [← hM]; rfl, hstep m]
    refine (hK m (by omega)).trans ?_
    rw [← hw]
    rfl
end Go.Proofs.Ytoghjnmcimniaaa.O.Base
