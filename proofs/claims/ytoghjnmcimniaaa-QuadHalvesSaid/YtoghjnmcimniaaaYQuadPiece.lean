/- Pieces near enough that they can be split (the law's Piece): what they are, what their halves' points are. -/
import Derived.Test.YtoghjnmcimniaaaYQuadSplits
namespace Go.Proofs.Ytoghjnmcimniaaa.Q.Base
open Go.RowKit Go.Proofs.YtoghjnmcimniaaaW.PrintWords Go.Proofs.YtoghjnmcimniaaaW.PrintLast Go.Proofs.YtoghjnmcimniaaaW.PrintMore Go.Proofs.Ytoghjnmcimniaaa.Q
set_option linter.unusedVariables false
theorem i32_bd {x : Int} (h : (Lit.int .i32 x).wf = true) : -2147483648 ≤ x ∧ x ≤ 2147483647 := by
  simp [Lit.wf, IntKind.min, IntKind.max, IntKind.bits, IntKind.signed] at h
  omega
theorem u16_bd {x : Int} (h : (Lit.int .u16 x).wf = true) : 0 ≤ x ∧ x ≤ 65535 := by
  simp [Lit.wf, IntKind.min, IntKind.max, IntKind.bits, IntKind.signed] at h
  omega
theorem u8_bd {x : Int} (h : (Lit.int .u8 x).wf = true) : 0 ≤ x ∧ x ≤ 255 := by
  simp [Lit.wf, IntKind.min, IntKind.max, IntKind.bits, IntKind.signed] at h
  omega
/-- within 2^20 -/
def sm (x : Int) : Prop := -1048576 ≤ x ∧ x ≤ 1048576
theorem sm_of {x : Int} (h : (Lit.int .i32 x).wf = true) : wrap64 x / 2048 = x / 2048 ∧ sm (x / 2048) := by
  have := i32_bd h
  rw [w_id (by omega) (by omega)]
  exact ⟨rfl, by unfold sm; omega⟩
theorem seg_eval (a b c d e f : Int) (v : Bool) (ha : (Lit.int .i32 a).wf = true) (hb : (Lit.int .i32 b).wf = true) (hc : (Lit.int .i32 c).wf = true) (hd : (Lit.int .i32 d).wf = true) (he : (Lit.int .i32 e).wf = true) (hf : (Lit.int .i32 f).wf = true) :
    ∃ A B C D E F : Int, calamuslaw13_Piece_seg.f a b c d e f v = some (A, B, C, D, E, F, v) ∧ sm A ∧ sm B ∧ sm C ∧ sm D ∧ sm E ∧ sm F ∧ (v = false → C = 0 ∧ D = 0) := by
  unfold calamuslaw13_Piece_seg.f
  rw [(sm_of ha).1, (sm_of hb).1, (sm_of hc).1, (sm_of hd).1, (sm_of he).1, (sm_of hf).1]
  cases v with
  | true => exact ⟨_, _, _, _, _, _, by rw [if_pos rfl], (sm_of ha).2, (sm_of hb).2, (sm_of hc).2, (sm_of hd).2, (sm_of he).2, (sm_of hf).2, fun h => by cases h⟩
  | false => exact ⟨_, _, 0, 0, _, _, by rw [if_neg (by simp)], (sm_of ha).2, (sm_of hb).2, by unfold sm; omega, by unfold sm; omega, (sm_of he).2, (sm_of hf).2, fun _ => ⟨rfl, rfl⟩⟩
theorem atS_ok {a b c d e f : Int} {v : Bool} {k : Int} {n : Nat} (hg : gs a b c d e f v = true) (hn : n ≤ 10) (h0 : 0 ≤ k) (h1 : k ≤ ((2 ^ n : Nat) : Int)) :
    atS a b c d e f v k n = (co v k ((2 ^ n : Nat) : Int) a c e, co v k ((2 ^ n : Nat) : Int) b d f, 0) := by
  unfold atS
  rw [Int.toNat_natCast, if_neg (by omega), if_pos hg]
theorem gs_of {a b c d e f : Int} {v : Bool} (ha : -4194304 ≤ a ∧ a ≤ 4194304) (hb : -4194304 ≤ b ∧ b ≤ 4194304) (hc : -4194304 ≤ c ∧ c ≤ 4194304) (hd : -4194304 ≤ d ∧ d ≤ 4194304) (he : -4194304 ≤ e ∧ e ≤ 4194304) (hf : -4194304 ≤ f ∧ f ≤ 4194304) : gs a b c d e f v = true := by
  unfold gs
  rw [gd_iff.2 ⟨ha.1, ha.2, hb⟩, gd_iff.2 ⟨he.1, he.2, hf⟩, gd_iff.2 ⟨hc.1, hc.2, hd⟩]
  cases v <;> rfl
theorem gs_sm {a b c d e f : Int} {v : Bool} (ha : sm a) (hb : sm b) (hc : sm c) (hd : sm d) (he : sm e) (hf : sm f) : gs a b c d e f v = true := by
  unfold sm at *
  exact gs_of (by omega) (by omega) (by omega) (by omega) (by omega) (by omega)
/-- one coordinate of the halves -/
def h2 (v : Bool) (a c e : Int) : Int := if v then a + 2 * c + e else 2 * a + 2 * e
def hl (v : Bool) (a c e : Int) : Int := if v then 2 * a + 2 * c else 0
def hr (v : Bool) (a c e : Int) : Int := if v then 2 * c + 2 * e else 0
theorem spl_eval {a b c d e f : Int} {v : Bool} (ha : sm a) (hb : sm b) (hc : sm c) (hd : sm d) (he : sm e) (hf : sm f) (hv : v = false → c = 0 ∧ d = 0) :
    splS a b c d e f v = (4 * a, 4 * b, hl v a c e, hl v b d f, h2 v a c e, h2 v b d f, v, h2 v a c e, h2 v b d f, hr v a c e, hr v b d f, 4 * e, 4 * f, v, 0) := by
  unfold sm at ha hb hc hd he hf
  have n1 := nr_iff.2 ⟨ha.1, ha.2, hb⟩
  have n2 := nr_iff.2 ⟨he.1, he.2, hf⟩
  have n3 := nr_iff.2 ⟨hc.1, hc.2, hd⟩
  unfold splS
  rw [n1, n2, n3]
  cases v with
  | true =>
    simp only [Bool.and_self, if_true]
    repeat rw [mix_co (by omega) (by omega) (by omega) (by omega) (by omega) (by omega)]
    simp only [hl, h2, hr, if_true, Prod.mk.injEq, and_true, true_and]
    omega
  | false =>
    obtain ⟨rfl, rfl⟩ := hv rfl
    simp only [Bool.and_self, if_true, Bool.false_eq_true, if_false]
    repeat rw [mix_co (by omega) (by omega) (by omega) (by omega) (by omega) (by omega)]
    simp only [hl, h2, hr, Bool.false_eq_true, if_false, Prod.mk.injEq, and_true, true_and]
    omega
theorem co_left (v : Bool) (i m a c e : Int) (hv : v = false → c = 0) : co v i m (4 * a) (hl v a c e) (h2 v a c e) = co v i (2 * m) a c e := by
  cases v with
  | true => simp only [co, w1, w2, w3, hl, h2, if_true]; grind
  | false => simp only [co, w1, w2, w3, hl, h2, Bool.false_eq_true, if_false]; grind
theorem co_right (v : Bool) (i m a c e : Int) (hv : v = false → c = 0) : co v i m (h2 v a c e) (hr v a c e) (4 * e) = co v (i + m) (2 * m) a c e := by
  cases v with
  | true => simp only [co, w1, w2, w3, hr, h2, if_true]; grind
  | false => simp only [co, w1, w2, w3, hr, h2, Bool.false_eq_true, if_false]; grind
/-- 'int(n % j)', 'int(k) % (1<<m + 1)' of small unsigned numbers -/
theorem share {a1 a2 : Int} {j : Nat} (h1 : (Lit.int .u16 a1).wf = true) (h2 : (Lit.int .u8 a2).wf = true) (hj : j = 9 ∨ j = 11) :
    ∃ (m : Nat) (i : Int), m < j ∧ wrap64 (Int.tmod a2 j) = m ∧ IntKind.u64.wrap (m : Int) = m ∧ shl .i64 1 (m : Int) = ((2 ^ m : Nat) : Int) ∧ wrap64 (((2 ^ m : Nat) : Int) + 1) = ((2 ^ m : Nat) : Int) + 1 ∧ Int.tmod (wrap64 a1) (((2 ^ m : Nat) : Int) + 1) = i ∧ 0 ≤ i ∧ i ≤ ((2 ^ m : Nat) : Int) := by
  have b1 := u16_bd h1
  have b2 := u8_bd h2
  have e : Int.tmod a2 j = a2 % j := Int.tmod_eq_emod_of_nonneg b2.1
  have hm0 : 0 ≤ a2 % (j : Int) := Int.emod_nonneg _ (by omega)
  have hm1 : a2 % (j : Int) < j := Int.emod_lt_of_pos _ (by omega)
  obtain ⟨m, hm⟩ : ∃ m : Nat, a2 % (j : Int) = m := ⟨(a2 % (j : Int)).toNat, by omega⟩
  rw [hm] at hm0 hm1
  have hp := two_pow (n := m) (by omega)
  have e2 : (2 : Int) ^ m = ((2 ^ m : Nat) : Int) := pow_cast 2 m
  refine ⟨m, _, by omega, by rw [e, hm, w_id (by omega) (by omega)], ?_, ?_, w_id (by omega) (by omega), rfl, ?_, ?_⟩
  · simp [IntKind.wrap, IntKind.signed, IntKind.bits]; omega
  · rw [shl_eval (by omega) (by rw [e2]; omega) (by rw [e2]; omega), e2]; omega
  · rw [w_id (by omega) (by omega), Int.tmod_eq_emod_of_nonneg b1.1]; exact Int.emod_nonneg _ (by omega)
  · rw [w_id (by omega) (by omega), Int.tmod_eq_emod_of_nonneg b1.1]
    have := Int.emod_lt_of_pos a1 (b := ((2 ^ m : Nat) : Int) + 1) (by omega)
    omega
end Go.Proofs.Ytoghjnmcimniaaa.Q.Base
