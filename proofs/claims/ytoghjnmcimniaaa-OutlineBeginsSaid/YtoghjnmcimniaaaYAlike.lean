/- calamusref11.Alike says yes of lists that are each other's permutations; the pieces of a contour that begins elsewhere are a permutation. -/
import Derived.Test.YtoghjnmcimniaaaYSegsChain
namespace Go.Proofs.Ytoghjnmcimniaaa.O.Base
open Go.RowKit Go.Proofs.YtoghjnmcimniaaaW.PrintWords Go.Proofs.YtoghjnmcimniaaaW.PrintLast Go.Proofs.YtoghjnmcimniaaaW.PrintMore Go.Proofs.Ytoghjnmcimniaaa.O
set_option linter.unusedVariables false

theorem rd37 (l : List S37) (i : Nat) (h : i < l.length) : rd_T37 l (i : Int) = l[i] := by
  show l.getD (i : Int).toNat _ = _
  rw [Int.toNat_natCast, List.getD_eq_getElem?_getD, List.getElem?_eq_getElem h]
  rfl
theorem wn (i : Nat) (h : i < 1000000) : wrap64 ((i : Int) + 1) = ((i + 1 : Nat) : Int) := by rw [w_id] <;> omega
/-- A piece gone the other way, if it is to be. -/
def rv (back : Bool) (t : S37) : S37 := if back = true then ⟨t.f2, t.f1, t.f0, t.f3⟩ else t
/-- What isn't used yet. -/
def un : List Bool → List S37 → List S37
  | u :: us, t :: ts => if u = true then un us ts else t :: un us ts
  | _, _ => []
theorem un_set : ∀ (u : List Bool) (b : List S37) (j : Nat) (h : j < b.length), u.length = b.length → u.getD j false = false → (un u b).Perm (b[j] :: un (u.set j true) b)
  | [], b, j, h, hl, _ => by simp at hl; omega
  | a :: u, [], j, h, hl, _ => by simp at h
  | a :: u, t :: b, 0, h, hl, hu => by
    have ha : a = false := by simpa using hu
    subst ha
    simp [un]
  | a :: u, t :: b, j + 1, h, hl, hu => by
    have ih := un_set u b j (by simpa using h) (by simpa using hl) (by simpa using hu)
    simp only [un, List.set_cons_succ, List.getElem_cons_succ]
    split
    · exact ih
    · exact (List.Perm.cons t ih).trans (List.Perm.swap _ _ _)
theorem un_new : ∀ (b : List S37), un (List.replicate b.length false) b = b
  | [] => rfl
  | t :: b => by
    simp only [List.length_cons, List.replicate_succ, un]
    rw [if_neg (by simp), un_new b]
theorem un_drop : ∀ (u : List Bool) (b : List S37) (j : Nat) (h : j < b.length) (hl : u.length = b.length), un (u.drop j) (b.drop j) = if u.getD j false = true then un (u.drop (j + 1)) (b.drop (j + 1)) else b[j] :: un (u.drop (j + 1)) (b.drop (j + 1))
  | [], b, j, h, hl => by simp at hl; omega
  | a :: u, [], j, h, hl => by simp at h
  | a :: u, t :: b, 0, h, hl => by simp [un]
  | a :: u, t :: b, j + 1, h, hl => by
    have := un_drop u b j (by simpa using h) (by simpa using hl)
    simpa using this
theorem seg_eq (s t : S37) : (((s.f0.f0 == t.f0.f0 && (s.f0.f1 == t.f0.f1))) && ((s.f1.f0 == t.f1.f0 && (s.f1.f1 == t.f1.f1)) && ((s.f2.f0 == t.f2.f0 && (s.f2.f1 == t.f2.f1)) && (s.f3 == t.f3)))) = decide (s = t) := by
  rw [Bool.eq_iff_iff]
  simp only [Bool.and_eq_true, beq_iff_eq, decide_eq_true_eq]
  constructor
  · rintro ⟨⟨h1, h2⟩, ⟨h3, h4⟩, ⟨h5, h6⟩, h7⟩
    obtain ⟨⟨a, b⟩, ⟨c, d⟩, ⟨e, f⟩, g⟩ := s
    obtain ⟨⟨a', b'⟩, ⟨c', d'⟩, ⟨e', f'⟩, g'⟩ := t
    simp_all
  · intro h
    subst h
    simp
/-- One look of the inner loop. -/
theorem al_step (b : List S37) (back : Bool) (u : List Bool) (x10 : Bool) (a : List S37) (na i : Int) (j : Nat) (s : S37) (hb : b.length < 1000000) (hu : u.length = b.length) (hj : j < b.length) (k : Nat) :
    calamusref11_Alike.l1 (k + 1) b back u x10 a na i b b.length j s.f0.f0 s.f0.f1 s.f1.f0 s.f1.f1 s.f2.f0 s.f2.f1 s.f3 =
      if x10 = true then calamusref11_Alike.l1 k b back u true a na i b b.length ((j + 1 : Nat) : Int) s.f0.f0 s.f0.f1 s.f1.f0 s.f1.f1 s.f2.f0 s.f2.f1 s.f3
      else if u.getD j false = true then calamusref11_Alike.l1 k b back u false a na i b b.length ((j + 1 : Nat) : Int) s.f0.f0 s.f0.f1 s.f1.f0 s.f1.f1 s.f2.f0 s.f2.f1 s.f3
      else if s = rv back b[j] then calamusref11_Alike.l1 k b back (u.set j true) true a na i b b.length ((j + 1 : Nat) : Int) s.f0.f0 s.f0.f1 s.f1.f0 s.f1.f1 s.f2.f0 s.f2.f1 s.f3
      else calamusref11_Alike.l1 k b back u false a na i b b.length ((j + 1 : Nat) : Int) s.f0.f0 s.f0.f1 s.f1.f0 s.f1.f1 s.f2.f0 s.f2.f1 s.f3 := by
  have hw := wn j (by omega)
  have hr := rd37 b j hj
  have hro : rdOf false u (j : Int) = u.getD j false := by
    show u.getD (j : Int).toNat _ = _
    rw [Int.toNat_natCast]
  simp only [calamusref11_Alike.l1]
  rw [if_pos (by omega), if_pos (by omega), if_pos (by omega), hw, hr, hro, Int.toNat_natCast]
  have e1 : ∀ (t : S37) (A B : Option Bool), (if (((s.f0.f0 == t.f0.f0 && (s.f0.f1 == t.f0.f1))) && ((s.f1.f0 == t.f1.f0 && (s.f1.f1 == t.f1.f1)) && ((s.f2.f0 == t.f2.f0 && (s.f2.f1 == t.f2.f1)) && (s.f3 == t.f3)))) = true then A else B) = if s = t then A else B := by
    intro t A B
    rw [seg_eq]
    simp only [decide_eq_true_eq]
  cases x10
  · simp only [Bool.false_eq_true, if_false]
    cases back
    · simp only [Bool.false_eq_true, if_false]
      rw [if_pos (by omega), e1 b[j]]
      rfl
    · simp only [if_true]
      rw [if_pos (by omega), e1 (⟨b[j].f2, b[j].f1, b[j].f0, b[j].f3⟩ : S37)]
      rfl
  · simp only [if_true]
    cases back <;> simp
theorem al_found (b : List S37) (back : Bool) (u : List Bool) (a : List S37) (i : Nat) (s : S37) (hb : b.length < 1000000) (hi : i < 1000000) (hu : u.length = b.length) :
    ∀ (d j : Nat), j + d = b.length → ∀ k, calamusref11_Alike.l1 (k + d + 1) b back u true a a.length i b b.length j s.f0.f0 s.f0.f1 s.f1.f0 s.f1.f1 s.f2.f0 s.f2.f1 s.f3 = calamusref11_Alike.l0 k b back u a a.length ((i + 1 : Nat) : Int) := by
  intro d
  induction d with
  | zero =>
    intro j hj k
    simp only [calamusref11_Alike.l1]
    rw [if_neg (by omega), if_pos trivial, wn i hi]
  | succ d ih =>
    intro j hj k
    rw [show k + (d + 1) + 1 = (k + d + 1) + 1 by omega, al_step b back u true a _ _ j s hb hu (by omega), if_pos rfl, ih (j + 1) (by omega)]
theorem al_inner (b : List S37) (back : Bool) (u : List Bool) (a : List S37) (i : Nat) (s : S37) (hb : b.length < 1000000) (hi : i < 1000000) (hu : u.length = b.length) :
    ∀ (d j : Nat), j + d = b.length → s ∈ un (u.drop j) ((b.map (rv back)).drop j) → ∃ u' : List Bool, u'.length = b.length ∧ (un u (b.map (rv back))).Perm (s :: un u' (b.map (rv back))) ∧
      ∀ k, calamusref11_Alike.l1 (k + d + 1) b back u false a a.length i b b.length j s.f0.f0 s.f0.f1 s.f1.f0 s.f1.f1 s.f2.f0 s.f2.f1 s.f3 = calamusref11_Alike.l0 k b back u' a a.length ((i + 1 : Nat) : Int) := by
  intro d
  induction d with
  | zero =>
    intro j hj hs
    rw [List.drop_of_length_le (by omega)] at hs
    simp [un] at hs
  | succ d ih =>
    intro j hj hs
    have hjb : j < b.length := by omega
    have hjm : j < (b.map (rv back)).length := by rw [List.length_map]; exact hjb
    have hd := un_drop u (b.map (rv back)) j hjm (by rw [List.length_map]; exact hu)
    rw [List.getElem_map] at hd
    rw [hd] at hs
    by_cases h1 : u.getD j false = true
    · rw [if_pos h1] at hs
      obtain ⟨u', a1, a2, a3⟩ := ih (j + 1) (by omega) hs
      refine ⟨u', a1, a2, fun k => ?_⟩
      rw [show k + (d + 1) + 1 = (k + d + 1) + 1 by omega, al_step b back u false a _ _ j s hb hu hjb, if_neg (by simp), if_pos h1, a3]
    · rw [if_neg h1] at hs
      have h1' : u.getD j false = false := by simpa using h1
      by_cases h2 : s = rv back b[j]
      · refine ⟨u.set j true, by simpa using hu, ?_, fun k => ?_⟩
        · have := un_set u (b.map (rv back)) j hjm (by rw [List.length_map]; exact hu) h1'
          rw [List.getElem_map, ← h2] at this
          exact this
        · rw [show k + (d + 1) + 1 = (k + d + 1) + 1 by omega, al_step b back u false a _ _ j s hb hu hjb, if_neg (by simp), if_neg h1, if_pos h2]
          exact al_found b back (u.set j true) a i s hb hi (by simpa using hu) d (j + 1) (by omega) k
      · rcases List.mem_cons.1 hs with h | hs
        · exact absurd h h2
        · obtain ⟨u', a1, a2, a3⟩ := ih (j + 1) (by omega) hs
          refine ⟨u', a1, a2, fun k => ?_⟩
          rw [show k + (d + 1) + 1 = (k + d + 1) + 1 by omega, al_step b back u false a _ _ j s hb hu hjb, if_neg (by simp), if_neg h1, if_neg h2, a3]
theorem al_outer (b : List S37) (back : Bool) (a : List S37) (hb : b.length < 1000000) (ha : a.length < 1000000) :
    ∀ (d i : Nat) (u : List Bool), i + d = a.length → u.length = b.length → (un u (b.map (rv back))).Perm (a.drop i) → ∃ K, ∀ k, K ≤ k → calamusref11_Alike.l0 k b back u a a.length i = some true := by
  intro d
  induction d with
  | zero =>
    intro i u hi hu hp
    refine ⟨1, fun k hk => ?_⟩
    obtain ⟨k, rfl⟩ : ∃ m, k = m + 1 := ⟨k - 1, by omega⟩
    simp only [calamusref11_Alike.l0]
    rw [if_neg (by omega)]
  | succ d ih =>
    intro i u hi hu hp
    have hia : i < a.length := by omega
    rw [List.drop_eq_getElem_cons hia] at hp
    obtain ⟨u', a1, a2, a3⟩ := al_inner b back u a i a[i] hb (by omega) hu b.length 0 (by omega) (by
      rw [List.drop_zero, List.drop_zero]
      exact hp.symm.subset (List.mem_cons_self ..))
    obtain ⟨K, hK⟩ := ih (i + 1) u' (by omega) a1 (List.Perm.cons_inv (a2.symm.trans hp))
    refine ⟨K + b.length + 2, fun k hk => ?_⟩
    obtain ⟨m, rfl⟩ : ∃ m, k = (m + b.length + 1) + 1 := ⟨k - b.length - 2, by omega⟩
    simp only [calamusref11_Alike.l0]
    rw [if_pos (by omega), if_pos (by omega), if_pos (by omega), rd37 a i hia]
    have := a3 m
    rw [show m + b.length + 1 = m + b.length + 1 by omega] at this
    refine Eq.trans ?_ (hK m (by omega))
    exact this
theorem alike_ok (a b : List S37) (back : Bool) (hb : b.length < 1000000) (ha : a.length < 1000000) (hp : (b.map (rv back)).Perm a) : ∃ K, ∀ k, K ≤ k → calamusref11_Alike.f k a b back = some true := by
  have hl := hp.length_eq
  rw [List.length_map] at hl
  obtain ⟨K, hK⟩ := al_outer b back a hb ha a.length 0 (List.replicate b.length false) (by omega) (by simp) (by
    have := un_new (b.map (rv back))
    rw [List.length_map] at this
    rw [this, List.drop_zero]
    exact hp)
  refine ⟨K, fun k hk => ?_⟩
  unfold calamusref11_Alike.f
  rw [if_pos (by omega), if_pos (by omega), if_pos (by rw [Int.toNat_natCast]; omega), Int.toNat_natCast]
  exact hK k hk

/-! The same pieces, in another order. -/
theorem pcs_turn (l : List S39) (i : Nat) : (pcs l (i + 1) l.length).Perm (pcs l i l.length) := by
  by_cases h : l.length = 0
  · rw [h]
    exact List.Perm.refl _
  · obtain ⟨n, hn⟩ : ∃ n, l.length = n + 1 := ⟨l.length - 1, by omega⟩
    have e : pcs l (i + 1) l.length = pcs l (i + 1) n ++ (pc (at_ l i) (at_ l (i + 1)) (at_ l (i + 2))).toList := by
      rw [hn, pcs_snoc]
      have e1 : i + 1 + n = i + l.length := by omega
      rw [e1, show i + l.length + 1 = i + 1 + l.length by omega, show i + l.length + 2 = i + 2 + l.length by omega, at_add, at_add, at_add]
    rw [e, hn, pcs]
    exact List.perm_append_comm
theorem pcs_perm (l : List S39) (i : Nat) : ∀ d, (pcs l (i + d) l.length).Perm (pcs l i l.length)
  | 0 => List.Perm.refl _
  | d + 1 => (pcs_turn l (i + d)).trans (pcs_perm l i d)
theorem pcs_any (l : List S39) (i j : Nat) : (pcs l i l.length).Perm (pcs l j l.length) := by
  rcases Nat.le_total i j with h | h
  · have := pcs_perm l i (j - i)
    rw [show i + (j - i) = j by omega] at this
    exact this.symm
  · have := pcs_perm l j (i - j)
    rw [show j + (i - j) = i by omega] at this
    exact this
theorem at_rot (l : List S39) (k : Nat) (hk : k < l.length) (i : Nat) : at_ (l.drop k ++ l.take k) i = at_ l (i + k) := by
  have hl : (l.drop k ++ l.take k).length = l.length := by simp; omega
  have hi := Nat.mod_lt i (show 0 < l.length by omega)
  unfold at_
  rw [hl]
  have e : (i + k) % l.length = (i % l.length + k) % l.length := by rw [Nat.mod_add_mod]
  rw [e]
  generalize i % l.length = r at hi
  rw [List.getD_eq_getElem?_getD, List.getD_eq_getElem?_getD]
  congr 1
  by_cases h : r < l.length - k
  · rw [List.getElem?_append_left (by simp; omega), List.getElem?_drop, Nat.mod_eq_of_lt (by omega), Nat.add_comm]
  · rw [List.getElem?_append_right (by simp; omega), List.getElem?_take_of_lt (by simp; omega), List.length_drop]
    congr 1
    rw [Nat.mod_eq_sub_mod (by omega), Nat.mod_eq_of_lt (by omega)]
    omega
theorem pcs_rot (l : List S39) (k : Nat) (hk : k < l.length) : ∀ (m i : Nat), pcs (l.drop k ++ l.take k) i m = pcs l (i + k) m
  | 0, _ => rfl
  | m + 1, i => by
    rw [pcs, pcs, pcs_rot l k hk m (i + 1), at_rot l k hk, at_rot l k hk, at_rot l k hk]
    rw [show i + 1 + k = i + k + 1 by omega, show i + 2 + k = i + k + 2 by omega]
end Go.Proofs.Ytoghjnmcimniaaa.O.Base
