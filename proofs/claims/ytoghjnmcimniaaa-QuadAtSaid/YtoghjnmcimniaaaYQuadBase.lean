/- What quad's functions and the document's answers (calamusref13) come to, over whole numbers: the points of a piece, where no sum wraps round. -/
import Derived.Test.YtoghjnmcimniaaaSQuadAt
namespace Go.Proofs.Ytoghjnmcimniaaa.Q.Base
open Go.RowKit Go.Proofs.YtoghjnmcimniaaaW.PrintWords Go.Proofs.YtoghjnmcimniaaaW.PrintLast Go.Proofs.YtoghjnmcimniaaaW.PrintMore Go.Proofs.Ytoghjnmcimniaaa.Q
set_option linter.unusedVariables false

/-- No 'rfl' for simp: else the kernel lays the rounds open. -/
theorem bs {α β : Type} (a : α) (f : α → Option β) : (some a).bind f = f a := by
  cases h : f a <;> simp [h]
theorem w_id {x : Int} (h1 : -9223372036854775808 ≤ x) (h2 : x < 9223372036854775808) : wrap64 x = x := by
  unfold wrap64
  omega
def gd (x y : Int) : Bool := decide (-4194304 ≤ x ∧ x ≤ 4194304 ∧ -4194304 ≤ y ∧ y ≤ 4194304)
theorem gd_iff {x y : Int} : gd x y = true ↔ (-4194304 ≤ x ∧ x ≤ 4194304 ∧ -4194304 ≤ y ∧ y ≤ 4194304) := by simp [gd]
theorem ref_gd (x y : Int) : calamusref10_Good.f x y = some (gd x y) := by
  unfold calamusref10_Good.f gd
  by_cases h1 : x ≥ -4194304
  · rw [if_pos h1]
    by_cases h2 : x ≤ 4194304
    · rw [if_pos h2]
      by_cases h3 : y ≥ -4194304
      · rw [if_pos h3]
        congr 1
        rw [decide_eq_decide]
        omega
      · rw [if_neg h3, decide_eq_false (by omega)]
    · rw [if_neg h2, decide_eq_false (by omega)]
  · rw [if_neg h1, decide_eq_false (by omega)]
theorem good_step (k : Nat) (l : List S33) (n i : Nat) (hi : i < n) (hn : n = l.length) (hs : n < 1000) :
    gauss_Good.l0 (k + 1) l n i = if gd (l.getD i z33).f0 (l.getD i z33).f1 = true then gauss_Good.l0 k l n ((i + 1 : Nat) : Int) else some false := by
  simp only [gauss_Good.l0]
  rw [if_pos (by omega), if_pos (by omega), if_pos (by omega), w_id (by omega) (by omega)]
  have e : rd_T33 l (i : Int) = l.getD i z33 := by simp [rd_T33]
  rw [e]
  generalize l.getD i z33 = p
  by_cases h : gd p.f0 p.f1 = true
  · rw [if_pos h]
    obtain ⟨h1, h2, h3, h4⟩ := gd_iff.1 h
    rw [if_neg (by omega), if_neg (by omega), if_neg (by omega), if_neg (by omega)]
    norm_cast
  · rw [if_neg h]
    have h' : ¬ (-4194304 ≤ p.f0 ∧ p.f0 ≤ 4194304 ∧ -4194304 ≤ p.f1 ∧ p.f1 ≤ 4194304) := fun x => h (gd_iff.2 x)
    repeat' split
    all_goals first | rfl | (exfalso; omega)
theorem good_end (k : Nat) (l : List S33) (n : Nat) : gauss_Good.l0 (k + 1) l n n = some true := by
  simp only [gauss_Good.l0]
  rw [if_neg (by omega)]
theorem good1 (k : Nat) (a b : Int) : gauss_Good.f (k + 2) [⟨a, b⟩] = some (gd a b) := by
  unfold gauss_Good.f
  show gauss_Good.l0 (k + 1 + 1) _ ((1 : Nat) : Int) ((0 : Nat) : Int) = _
  rw [good_step _ _ 1 0 (by omega) rfl (by omega), good_end]
  simp only [List.getD_cons_zero]
  cases gd a b <;> rfl
theorem good2 (k : Nat) (a b c d : Int) : gauss_Good.f (k + 3) [⟨a, b⟩, ⟨c, d⟩] = some (gd a b && gd c d) := by
  unfold gauss_Good.f
  show gauss_Good.l0 (k + 2 + 1) _ ((2 : Nat) : Int) ((0 : Nat) : Int) = _
  rw [good_step _ _ 2 0 (by omega) rfl (by omega), good_step _ _ 2 1 (by omega) rfl (by omega), good_end]
  simp only [List.getD_cons_zero, List.getD_cons_succ]
  cases gd a b <;> cases gd c d <;> rfl
/-- Is a piece good? -/
def gs (a b c d e f : Int) (v : Bool) : Bool := gd a b && gd e f && (!v || gd c d)
theorem quad_gs (k : Nat) (a b c d e f : Int) (v : Bool) : quad_good.f (k + 3) a b c d e f v = some (gs a b c d e f v) := by
  unfold quad_good.f gs
  rw [good2, show k + 3 = (k + 1) + 2 from rfl, good1]
  cases gd a b <;> cases gd e f <;> cases v <;> simp
theorem ref_gs (a b c d e f : Int) (v : Bool) : calamusref13_Good.f a b c d e f v = some (gs a b c d e f v) := by
  unfold calamusref13_Good.f gs
  rw [ref_gd, ref_gd, ref_gd]
  cases gd a b <;> cases gd e f <;> cases v <;> simp
theorem mix_point (a b c d e f : Int) (v : Bool) (x y z : Int) : calamusref13_point.f a b c d e f v x y z = quad_mix.f a b c d e f v x y z := rfl

theorem pow_cast (b n : Nat) : (b : Int) ^ n = ((b ^ n : Nat) : Int) := (Int.natCast_pow b n).symm
theorem pow_step (k : Nat) (b n p i : Int) : calamusref13_Power.l0 (k + 1) b n p i = if i < n then calamusref13_Power.l0 k b n (wrap64 (p * b)) (wrap64 (i + 1)) else some p := rfl
theorem pow_loop (b n : Nat) (hn : n ≤ 20) (hb : b ≤ 4) (k : Nat) : ∀ (d i : Nat), i + d = n → calamusref13_Power.l0 (k + d + 1) b n ((b ^ i : Nat) : Int) i = some ((b ^ n : Nat) : Int) := by
  intro d
  induction d with
  | zero =>
    intro i hi
    rw [pow_step, if_neg (by omega), show i = n by omega]
  | succ d ih =>
    intro i hi
    have h4 : b ^ (i + 1) ≤ 4 ^ 20 := Nat.le_trans (Nat.pow_le_pow_left hb _) (Nat.pow_le_pow_right (by omega) (by omega))
    have h5 : (4 : Nat) ^ 20 = 1099511627776 := by decide
    have e : ((b ^ i : Nat) : Int) * (b : Int) = ((b ^ (i + 1) : Nat) : Int) := by rw [Nat.pow_succ, Int.natCast_mul]
    rw [pow_step, if_pos (by omega), e, w_id (by omega) (by omega), w_id (by omega) (by omega)]
    exact ih (i + 1) (by omega)
theorem pow_eval (b n : Nat) (hn : n ≤ 20) (hb : b ≤ 4) (k : Nat) : calamusref13_Power.f (k + 21) b n = some ((b ^ n : Nat) : Int) := by
  unfold calamusref13_Power.f
  have h := pow_loop b n hn hb (k + (20 - n)) n 0 (by omega)
  rw [show k + (20 - n) + n + 1 = k + 21 by omega] at h
  exact h
theorem shl_eval {x : Int} {n : Nat} (hn : n ≤ 60) (h1 : -9223372036854775808 ≤ x * 2 ^ n) (h2 : x * 2 ^ n < 9223372036854775808) : shl .i64 x n = x * 2 ^ n := by
  unfold shl
  rw [i64_w, Int.toNat_natCast, Nat.min_eq_left (by show n ≤ 64; omega), w_id h1 h2]
theorem shr_eval {x : Int} {n : Nat} (hn : n ≤ 60) : shr .i64 x n = x / 2 ^ n := by
  unfold shr
  rw [Int.toNat_natCast, Nat.min_eq_left (by show n ≤ 64; omega)]
/-- a power of two, and its bounds -/
theorem two_pow {n : Nat} (hn : n ≤ 10) : 1 ≤ 2 ^ n ∧ 2 ^ n ≤ 1024 :=
  ⟨Nat.one_le_two_pow, Nat.le_trans (Nat.pow_le_pow_right (by omega) hn) (by decide)⟩
/-- A mean with weights: it lies within the bounds of what is weighed. -/
theorem weighed {a c b m A C B L U : Int} (ha : 0 ≤ a) (hc : 0 ≤ c) (hb : 0 ≤ b) (hs : a + c + b = m) (hA : L ≤ A ∧ A ≤ U) (hC : L ≤ C ∧ C ≤ U) (hB : L ≤ B ∧ B ≤ U) :
    m * L ≤ a * A + c * C + b * B ∧ a * A + c * C + b * B ≤ m * U := by
  have h1 := Int.mul_le_mul_of_nonneg_left hA.1 ha
  have h2 := Int.mul_le_mul_of_nonneg_left hA.2 ha
  have h3 := Int.mul_le_mul_of_nonneg_left hC.1 hc
  have h4 := Int.mul_le_mul_of_nonneg_left hC.2 hc
  have h5 := Int.mul_le_mul_of_nonneg_left hB.1 hb
  have h6 := Int.mul_le_mul_of_nonneg_left hB.2 hb
  rw [← hs, Int.add_mul, Int.add_mul, Int.add_mul, Int.add_mul]
  omega
end Go.Proofs.Ytoghjnmcimniaaa.Q.Base
