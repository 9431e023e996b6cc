/- The pieces of a contour (outline.Segs) as a plain list: what each three knots in a row come to. -/
import Derived.Test.YtoghjnmcimniaaaOd0
namespace Go.Proofs.Ytoghjnmcimniaaa.O.Base
open Go.RowKit Go.Proofs.YtoghjnmcimniaaaW.PrintWords Go.Proofs.YtoghjnmcimniaaaW.PrintLast Go.Proofs.YtoghjnmcimniaaaW.PrintMore Go.Proofs.Ytoghjnmcimniaaa.O
set_option linter.unusedVariables false
set_option linter.unusedSimpArgs false

theorem bs {α β : Type} (a : α) (f : α → Option β) : (some a).bind f = f a := by
  cases h : f a <;> simp [h]
theorem w_id {x : Int} (h1 : -9223372036854775808 ≤ x) (h2 : x < 9223372036854775808) : wrap64 x = x := by
  unfold wrap64
  omega
instance (a b : S33) : Decidable (a = b) := decidable_of_iff (a.f0 = b.f0 ∧ a.f1 = b.f1) ⟨fun ⟨h1, h2⟩ => by cases a; cases b; simp_all, fun h => by subst h; exact ⟨rfl, rfl⟩⟩
instance (a b : S37) : Decidable (a = b) := decidable_of_iff (a.f0 = b.f0 ∧ a.f1 = b.f1 ∧ a.f2 = b.f2 ∧ a.f3 = b.f3) ⟨fun ⟨h1, h2, h3, h4⟩ => by cases a; cases b; simp_all, fun h => by subst h; exact ⟨rfl, rfl, rfl, rfl⟩⟩
/-- Whole numbers that fit. -/
def I64 (x : Int) : Prop := -9223372036854775808 ≤ x ∧ x < 9223372036854775808
def hf (a b : Int) : Int := (a + b) / 2
def pl (k : S39) : S33 := ⟨k.f0, k.f1⟩
def mm (p q : S33) : S33 := ⟨hf p.f0 q.f0, hf p.f1 q.f1⟩
theorem hf_comm (a b : Int) : hf a b = hf b a := by unfold hf; rw [Int.add_comm]
theorem mm_comm (p q : S33) : mm p q = mm q p := by unfold mm; rw [hf_comm p.f0, hf_comm p.f1]
def GK (k : S39) : Prop := I64 k.f0 ∧ I64 k.f1

/-- Where a piece begins whose middle knot is b. -/
def ea (a b : S39) : S33 := if a.f2 = true then pl a else mm (pl a) (pl b)
def eb (b c : S39) : S33 := if c.f2 = true then pl c else mm (pl b) (pl c)
/-- Where one stands once knots a, b have come. -/
def fr (a b : S39) : S33 := if b.f2 = true then pl b else ea a b
def mk (cv : Bool) (A C B : S33) : Option S37 := if A ≠ B ∨ (cv = true ∧ C ≠ A) then some ⟨A, if cv = true then C else ⟨0, 0⟩, B, cv⟩ else none
/-- The piece that ends where knot c comes behind a, b. -/
def pc (a b c : S39) : Option S37 := if b.f2 = true then (if c.f2 = true then mk false (pl b) ⟨0, 0⟩ (pl c) else none) else mk true (ea a b) (pl b) (eb b c)
def at_ (l : List S39) (i : Nat) : S39 := l.getD (i % l.length) ⟨0, 0, false⟩
/-- The pieces of m windows from i on. -/
def pcs (l : List S39) : Nat → Nat → List S37
  | _, 0 => []
  | i, m + 1 => (pc (at_ l i) (at_ l (i + 1)) (at_ l (i + 2))).toList ++ pcs l (i + 1) m

theorem at_per (l : List S39) (i j : Nat) : at_ l (i + l.length * j) = at_ l i := by unfold at_; rw [Nat.add_mul_mod_self_left]
theorem at_mod (l : List S39) (i : Nat) : at_ l (i % l.length) = at_ l i := by unfold at_; rw [Nat.mod_mod]
theorem pcs_len (l : List S39) (i m : Nat) : (pcs l i m).length ≤ m := by
  induction m generalizing i with
  | zero => simp [pcs]
  | succ m ih =>
    have := ih (i + 1)
    simp only [pcs, List.length_append]
    cases pc (at_ l i) (at_ l (i + 1)) (at_ l (i + 2)) <;> simp <;> omega
theorem pcs_snoc (l : List S39) (i m : Nat) : pcs l i (m + 1) = pcs l i m ++ (pc (at_ l (i + m)) (at_ l (i + m + 1)) (at_ l (i + m + 2))).toList := by
  induction m generalizing i with
  | zero => simp [pcs]
  | succ m ih =>
    have e : i + 1 + m = i + (m + 1) := by omega
    rw [pcs, ih (i + 1), pcs, List.append_assoc, e]

theorem put_ok (xs : List S37) (s : S37) (h : xs.length < 1000000) : outline_Segs.put xs s = some (xs ++ [s]) := by
  unfold outline_Segs.put
  rw [if_pos (by omega)]
theorem to_ok (fx fy : Int) (cv : Bool) (kx ky : Int) (xs : List S37) (x y : Int) (h : xs.length < 1000000) :
    outline_Segs.to fx fy cv kx ky xs x y = some (xs ++ (mk cv ⟨fx, fy⟩ ⟨kx, ky⟩ ⟨x, y⟩).toList) := by
  unfold outline_Segs.to mk
  rw [put_ok _ _ h, put_ok _ _ h]
  cases cv
  · by_cases h1 : fx = x
    · by_cases h2 : fy = y
      · subst h1; subst h2; simp
      · simp [h2]
    · simp [h1]
  · by_cases h1 : fx = x
    · by_cases h2 : fy = y
      · subst h1; subst h2
        by_cases h3 : kx = fx
        · by_cases h4 : ky = fy
          · subst h3; subst h4; simp
          · simp [h4]
        · simp [h3]
      · simp [h2]
    · simp [h1]
theorem two01 (a : Int) : a % 2 = 0 ∨ a % 2 = 1 := by omega
theorem bit_and (a b : Int) : bits .and .i64 (bits .and .i64 a b) 1 = a % 2 * (b % 2) := by
  have h1 : (BitVec.ofInt 64 1).toNat = 2 ^ 1 - 1 := by decide
  have key : ∀ n : Int, bits .and .i64 n 1 = n % 2 := by
    intro n
    have h : (BitVec.ofInt 64 n &&& BitVec.ofInt 64 1).toNat = (n % ((2 ^ 64 : Nat) : Int)).toNat % 2 ^ 1 := by
      rw [BitVec.toNat_and, BitVec.toNat_ofInt, h1, Nat.and_two_pow_sub_one_eq_mod]
    show IntKind.i64.wrap ((BitVec.ofInt 64 n &&& BitVec.ofInt 64 1).toNat : Nat) = n % 2
    rw [h, IntKind.wrap_i64]
    omega
  rw [key]
  have h : (BitVec.ofInt 64 a &&& BitVec.ofInt 64 b).toNat % 2 ^ 1 = (a % 2).toNat &&& (b % 2).toNat := by
    rw [BitVec.toNat_and, BitVec.toNat_ofInt, BitVec.toNat_ofInt, Nat.and_mod_two_pow]
    congr 1 <;> omega
  show IntKind.i64.wrap ((BitVec.ofInt 64 a &&& BitVec.ofInt 64 b).toNat : Nat) % 2 = _
  generalize (BitVec.ofInt 64 a &&& BitVec.ofInt 64 b).toNat = N at h ⊢
  rw [IntKind.wrap_i64]
  rcases two01 a with ha | ha <;> rcases two01 b with hb | hb <;> rw [ha, hb] at h ⊢
  · have h' : N % 2 = 0 := h
    omega
  · have h' : N % 2 = 0 := h
    omega
  · have h' : N % 2 = 0 := h
    omega
  · have h' : N % 2 = 1 := h
    omega
theorem half_ok {a b : Int} (ha : I64 a) (hb : I64 b) : outline_half.f a b = some (hf a b) := by
  unfold I64 at ha hb
  unfold outline_half.f hf
  rw [bit_and]
  rcases two01 a with h1 | h1 <;> rcases two01 b with h2 | h2 <;> rw [h1, h2] <;> congr 1 <;> unfold wrap64 <;> omega
theorem mid_ok {a b c d : Int} (ha : I64 a) (hb : I64 b) (hc : I64 c) (hd : I64 d) : outline_Mid.f a b c d = some (hf a c, hf b d) := by
  unfold outline_Mid.f
  rw [half_ok ha hc, bs, half_ok hb hd, bs]
theorem hf_i64 {a b : Int} (ha : I64 a) (hb : I64 b) : I64 (hf a b) := by
  unfold I64 at *
  unfold hf
  omega

theorem at_mem (l : List S39) (h : 0 < l.length) (i : Nat) : at_ l i ∈ l := by
  have hi := Nat.mod_lt i h
  unfold at_
  rw [List.getD_eq_getElem?_getD, List.getElem?_eq_getElem hi]
  exact List.getElem_mem hi
theorem pc_on (a b c : S39) (C : S33) (hc : b.f2 = false → C = pl b) (B : S33) (h : c.f2 = true ∧ B = pl c ∨ b.f2 = false ∧ B = eb b c) : mk (!b.f2) (fr a b) C B = pc a b c := by
  unfold pc
  cases hb : b.f2
  · rw [hc hb]
    have : B = eb b c := by
      rcases h with ⟨h1, h2⟩ | ⟨_, h2⟩
      · rw [h2]; unfold eb; rw [if_pos h1]
      · exact h2
    rw [this]
    simp [fr, hb]
  · rcases h with ⟨h1, h2⟩ | ⟨h1, _⟩
    · rw [if_pos rfl, if_pos h1, h2]
      unfold mk fr
      rw [if_pos hb]
      simp
    · rw [hb] at h1; cases h1
theorem loop_ok (l : List S39) (hn : 0 < l.length) (hL : l.length < 1000000) (f : Nat) (hf : f < l.length) (hG : ∀ k ∈ l, GK k) (bx yb : Int)
    (H : (at_ l f).f2 = true ∧ (⟨bx, yb⟩ : S33) = pl (at_ l f) ∨ (∀ i, (at_ l i).f2 = false) ∧ (⟨bx, yb⟩ : S33) = mm (pl (at_ l (f + l.length - 1))) (pl (at_ l f))) :
    ∀ (d i p : Nat), i + d = l.length → p + 2 = f + 2 * l.length + i → 1 ≤ i → ∀ (K : Nat) (fx fy : Int) (cv : Bool) (kx ky : Int) (xs : List S37),
      (⟨fx, fy⟩ : S33) = fr (at_ l p) (at_ l (p + 1)) → cv = !(at_ l (p + 1)).f2 → ((at_ l (p + 1)).f2 = false → (⟨kx, ky⟩ : S33) = pl (at_ l (p + 1))) → xs.length ≤ i →
      outline_Segs.l0 (K + d + 1) l f i bx yb fx fy cv kx ky xs = some (xs ++ pcs l p (d + 1)) := by
  intro d
  induction d with
  | zero =>
    intro i p hi hp h1 K fx fy cv kx ky xs hF hC hK hx
    unfold outline_Segs.l0
    rw [if_neg (by omega), to_ok _ _ _ _ _ _ _ _ (by omega), hF]
    congr 2
    show _ = (pc (at_ l p) (at_ l (p + 1)) (at_ l (p + 2))).toList ++ []
    rw [List.append_nil, hC]
    congr 1
    refine pc_on _ _ _ _ hK _ ?_
    have e2 : at_ l (p + 2) = at_ l f := by rw [hp, show f + 2 * l.length + i = f + l.length * 3 by omega, at_per]
    have e1 : at_ l (p + 1) = at_ l (f + l.length - 1) := by rw [show p + 1 = f + l.length - 1 + l.length * 2 by omega, at_per]
    rcases H with ⟨a1, a2⟩ | ⟨a1, a2⟩
    · exact .inl ⟨by rw [e2]; exact a1, by rw [e2]; exact a2⟩
    · refine .inr ⟨a1 _, ?_⟩
      rw [a2]
      unfold eb
      rw [if_neg (by rw [a1]; simp), e1, e2]
  | succ d ih =>
    intro i p hi hp h1 K fx fy cv kx ky xs hF hC hK hx
    have hlt : i < l.length := by omega
    have hw : wrap64 ((f : Int) + (i : Int)) = ((f + i : Nat) : Int) := by rw [w_id] <;> omega
    have hm : Int.tmod (wrap64 ((f : Int) + (i : Int))) (l.length : Int) = (((f + i) % l.length : Nat) : Int) := by rw [hw]; rfl
    have hml := Nat.mod_lt (f + i) hn
    have hr : rd_T39 l (((f + i) % l.length : Nat) : Int) = at_ l (p + 2) := by
      show l.getD (((f + i) % l.length : Nat) : Int).toNat _ = _
      rw [Int.toNat_natCast]
      unfold at_
      rw [hp, show f + 2 * l.length + i = f + i + l.length * 2 by omega, Nat.add_mul_mod_self_left]
      rfl
    have hg := hG _ (at_mem l hn (p + 2))
    have hgb := hG _ (at_mem l hn (p + 1))
    unfold outline_Segs.l0
    rw [if_pos (by omega), hm, if_pos (by omega), if_pos (by omega), hr]
    have hi1 : wrap64 ((i : Int) + 1) = ((i + 1 : Nat) : Int) := by rw [w_id] <;> omega
    rw [hi1, show K + (d + 1) = K + d + 1 by omega]
    have hstep : ∀ (fx' fy' : Int) (cv' : Bool) (kx' ky' : Int) (xs' : List S37), (⟨fx', fy'⟩ : S33) = fr (at_ l (p + 1)) (at_ l (p + 2)) → cv' = !(at_ l (p + 2)).f2 → ((at_ l (p + 2)).f2 = false → (⟨kx', ky'⟩ : S33) = pl (at_ l (p + 2))) →
        xs' = xs ++ (pc (at_ l p) (at_ l (p + 1)) (at_ l (p + 2))).toList → outline_Segs.l0 (K + d + 1) l f ((i + 1 : Nat) : Int) bx yb fx' fy' cv' kx' ky' xs' = some (xs ++ pcs l p (d + 1 + 1)) := by
      intro fx' fy' cv' kx' ky' xs' a1 a2 a3 a4
      rw [ih (i + 1) (p + 1) (by omega) (by omega) (by omega) K fx' fy' cv' kx' ky' xs' a1 a2 a3 (by rw [a4, List.length_append]; cases pc (at_ l p) (at_ l (p + 1)) (at_ l (p + 2)) <;> simp <;> omega), a4, List.append_assoc]
      rfl
    cases hc : (at_ l (p + 2)).f2
    · rw [if_neg (by simp)]
      cases hb : (at_ l (p + 1)).f2
      · rw [hb] at hC
        have hk := hK hb
        obtain ⟨k0, k1⟩ : kx = (at_ l (p + 1)).f0 ∧ ky = (at_ l (p + 1)).f1 := by unfold pl at hk; injection hk with a b; exact ⟨a, b⟩
        rw [hC, if_pos (show (!false) = true from rfl), k0, k1, mid_ok hgb.1 hgb.2 hg.1 hg.2, bs, to_ok _ _ _ _ _ _ _ _ (by omega), bs]
        refine hstep _ _ _ _ _ _ ?_ (by rw [hc]; rfl) (fun _ => rfl) ?_
        · unfold fr ea
          rw [hc, hb]
          rfl
        · congr 2
          have := pc_on (at_ l p) (at_ l (p + 1)) (at_ l (p + 2)) (pl (at_ l (p + 1))) (fun _ => rfl) (eb (at_ l (p + 1)) (at_ l (p + 2))) (.inr ⟨hb, rfl⟩)
          rw [← this, hb, ← hF]
          unfold eb
          rw [hc]
          rfl
      · rw [hb] at hC
        rw [hC, if_neg (show ¬ (!true) = true by decide)]
        refine hstep _ _ _ _ _ _ ?_ (by rw [hc]; rfl) (fun _ => rfl) ?_
        · rw [hF]
          unfold fr ea
          rw [hc, hb]
          rfl
        · have : pc (at_ l p) (at_ l (p + 1)) (at_ l (p + 2)) = none := by unfold pc; rw [hb, hc]; rfl
          rw [this]
          simp
    · rw [if_pos rfl, if_pos (by omega), to_ok _ _ _ _ _ _ _ _ (by omega), bs]
      refine hstep _ _ _ _ _ _ ?_ (by rw [hc]; rfl) (fun e => by rw [hc] at e; cases e) ?_
      · unfold fr
        rw [hc]
        rfl
      · rw [hC, hF]
        congr 2
        exact pc_on _ _ _ _ hK _ (.inl ⟨hc, rfl⟩)
theorem start_ok (l : List S39) (hL : l.length < 1000000) : ∀ (d i : Nat), i + d = l.length → (∀ j, j < i → (l.getD j z39).f2 = false) → ∀ K,
    (∃ f : Nat, f < l.length ∧ (l.getD f z39).f2 = true ∧ (∀ j, j < f → (l.getD j z39).f2 = false) ∧ outline_start.l0 (K + d + 1) l l.length i = some ((f : Int), true)) ∨ ((∀ j, j < l.length → (l.getD j z39).f2 = false) ∧ outline_start.l0 (K + d + 1) l l.length i = some (0, false)) := by
  intro d
  induction d with
  | zero =>
    intro i hi hb K
    refine .inr ⟨fun j hj => hb j (by omega), ?_⟩
    unfold outline_start.l0
    rw [if_neg (by omega)]
  | succ d ih =>
    intro i hi hb K
    have hr : rd_T39 l (i : Int) = l.getD i z39 := by
      show l.getD (i : Int).toNat _ = _
      rw [Int.toNat_natCast]
    have hi1 : wrap64 ((i : Int) + 1) = ((i + 1 : Nat) : Int) := by rw [w_id] <;> omega
    cases hc : (l.getD i z39).f2
    · have := ih (i + 1) (by omega) (fun j hj => by
        rcases Nat.lt_or_ge j i with h | h
        · exact hb j h
        · obtain rfl : j = i := by omega
          exact hc) K
      have e : outline_start.l0 (K + (d + 1) + 1) l l.length i = outline_start.l0 (K + d + 1) l l.length ((i + 1 : Nat) : Int) := by
        rw [outline_start.l0, if_pos (by omega), if_pos (by omega), if_pos (by omega), hr, hc, if_neg (by simp), hi1]
        rfl
      rw [e]
      exact this
    · refine .inl ⟨i, by omega, hc, hb, ?_⟩
      rw [outline_start.l0, if_pos (by omega), if_pos (by omega), if_pos (by omega), hr, hc, if_pos rfl]
theorem at_get (l : List S39) (i : Nat) (h : i < l.length) : at_ l i = l.getD i z39 := by
  unfold at_
  rw [Nat.mod_eq_of_lt h]
  rfl
/-- THE PIECES: n windows, from where the way begins. -/
theorem segs_ok (l : List S39) (hn : 0 < l.length) (hL : l.length < 1000000) (hG : ∀ k ∈ l, GK k) :
    ∃ f : Nat, f < l.length ∧ ((at_ l f).f2 = true ∧ (∀ j, j < f → (at_ l j).f2 = false) ∨ f = 0 ∧ ∀ i, (at_ l i).f2 = false) ∧ ∀ K, outline_Segs.f (K + l.length + 1) l = some (pcs l (f + 2 * l.length - 1) l.length) := by
  have key : ∀ (f : Nat) (bx yb : Int) (K : Nat), f < l.length → ((at_ l f).f2 = true ∧ (⟨bx, yb⟩ : S33) = pl (at_ l f) ∨ (∀ i, (at_ l i).f2 = false) ∧ (⟨bx, yb⟩ : S33) = mm (pl (at_ l (f + l.length - 1))) (pl (at_ l f))) →
      outline_Segs.l0 (K + l.length + 1) l f 0 bx yb bx yb false 0 0 [] = some (pcs l (f + 2 * l.length - 1) l.length) := by
    intro f bx yb K hf H
    obtain ⟨d, hd⟩ : ∃ d, l.length = d + 1 := ⟨l.length - 1, by omega⟩
    have hp : f + 2 * l.length - 1 + 2 = f + 2 * l.length + 1 := by omega
    have hr : rd_T39 l (f : Int) = at_ l f := by
      show l.getD (f : Int).toNat _ = _
      rw [Int.toNat_natCast, at_get l f hf]
    have hw : Int.tmod (wrap64 ((f : Int) + 0)) (l.length : Int) = (f : Int) := by
      rw [w_id (by omega) (by omega), Int.add_zero]
      show (((f % l.length : Nat)) : Int) = f
      rw [Nat.mod_eq_of_lt hf]
    have e1 : at_ l (f + 2 * l.length - 1 + 1) = at_ l f := by rw [show f + 2 * l.length - 1 + 1 = f + l.length * 2 by omega, at_per]
    have e0 : at_ l (f + 2 * l.length - 1) = at_ l (f + l.length - 1) := by rw [show f + 2 * l.length - 1 = f + l.length - 1 + l.length * 1 by omega, at_per]
    have hL0 := fun d i p a b c => loop_ok l hn hL f hf hG bx yb H d i p a b c K
    have hone : wrap64 ((0 : Int) + 1) = ((1 : Nat) : Int) := by rw [w_id] <;> omega
    rw [outline_Segs.l0, if_pos (by omega), hw, if_pos (by omega), if_pos (by omega), hr, hone]
    rcases H with ⟨a1, a2⟩ | ⟨a1, a2⟩
    · rw [if_pos a1, if_neg (by omega)]
      have := hL0 d 1 (f + 2 * l.length - 1) (by omega) hp (by omega) bx yb false 0 0 [] (by rw [e1]; unfold fr; rw [if_pos a1]; exact a2) (by rw [e1, a1]; rfl) (fun h => by rw [e1, a1] at h; cases h) (by simp)
      rw [hd, show K + (d + 1) = K + d + 1 by omega] at *
      simpa using this
    · rw [if_neg (by rw [a1]; simp), if_neg (by simp)]
      have := hL0 d 1 (f + 2 * l.length - 1) (by omega) hp (by omega) bx yb true (at_ l f).f0 (at_ l f).f1 [] (by rw [e1, e0]; unfold fr ea; rw [if_neg (by rw [a1]; simp), if_neg (by rw [a1]; simp)]; exact a2) (by rw [e1, a1]; rfl) (fun h => by rw [e1]; rfl) (by simp)
      rw [hd, show K + (d + 1) = K + d + 1 by omega] at *
      simpa using this
  have hl0 : ¬ ((l.length : Int) = 0) := by omega
  rcases start_ok l hL l.length 0 (by omega) (fun j hj => by omega) 0 with ⟨f, hf, hon, _⟩ | ⟨hoff, _⟩
  · rcases start_ok l hL l.length 0 (by omega) (fun j hj => by omega) 0 with ⟨f, hf, hon, hmin, hs0⟩ | ⟨hoff, _⟩
    · have hon' : (at_ l f).f2 = true := by rw [at_get l f hf]; exact hon
      refine ⟨f, hf, .inl ⟨hon', fun j hj => by rw [at_get l j (by omega)]; exact hmin j hj⟩, fun K => ?_⟩
      have hs : outline_start.f (K + l.length + 1) l = some ((f : Int), true) := at_rounds (fun k => outline_start.mono l k) (show 0 + l.length + 1 ≤ K + l.length + 1 by omega) hs0
      have hr : rd_T39 l (f : Int) = at_ l f := by
        show l.getD (f : Int).toNat _ = _
        rw [Int.toNat_natCast, at_get l f hf]
      unfold outline_Segs.f
      rw [if_neg hl0, hs, bs]
      show (if (0 : Int) ≤ (f : Int) then _ else _) = _
      rw [if_pos (by omega), if_pos (by omega), if_pos rfl, hr]
      exact key f _ _ K hf (.inl ⟨hon', rfl⟩)
    · rw [hoff f hf] at hon; cases hon
  · rcases start_ok l hL l.length 0 (by omega) (fun j hj => by omega) 0 with ⟨f, hf, hon, _, _⟩ | ⟨hoff, hs0⟩
    · rw [hoff f hf] at hon; cases hon
    · have hoff' : ∀ i, (at_ l i).f2 = false := by
        intro i
        rw [← at_mod, at_get _ _ (Nat.mod_lt i hn)]
        exact hoff _ (Nat.mod_lt i hn)
      refine ⟨0, hn, .inr ⟨rfl, hoff'⟩, fun K => ?_⟩
      have hs : outline_start.f (K + l.length + 1) l = some (0, false) := at_rounds (fun k => outline_start.mono l k) (show 0 + l.length + 1 ≤ K + l.length + 1 by omega) hs0
      have hr : rd_T39 l 0 = at_ l 0 := by
        show l.getD (0 : Int).toNat _ = _
        rw [at_get l 0 hn]; rfl
      have hwl : wrap64 ((l.length : Int) - 1) = ((l.length - 1 : Nat) : Int) := by rw [w_id] <;> omega
      have hr1 : rd_T39 l ((l.length - 1 : Nat) : Int) = at_ l (l.length - 1) := by
        show l.getD (((l.length - 1 : Nat) : Int)).toNat _ = _
        rw [Int.toNat_natCast, at_get l _ (by omega)]
      have g0 := hG _ (at_mem l hn 0)
      have g1 := hG _ (at_mem l hn (l.length - 1))
      unfold outline_Segs.f
      rw [if_neg hl0, hs, bs]
      show (if (0 : Int) ≤ 0 then _ else _) = _
      rw [if_pos (by omega), if_pos (by omega), if_neg (by simp), hwl, if_pos (by omega), if_pos (by omega), hr, hr1, mid_ok g1.1 g1.2 g0.1 g0.2, bs]
      exact key 0 _ _ K hn (.inr ⟨hoff', by rw [show 0 + l.length - 1 = l.length - 1 by omega]; rfl⟩)
end Go.Proofs.Ytoghjnmcimniaaa.O.Base
