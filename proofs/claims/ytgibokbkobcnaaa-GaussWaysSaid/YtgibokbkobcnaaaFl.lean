/- Whole numbers as float64: sums, differences, products, signs, comparisons and the way back are exact below 2^52. -/
import Derived.Laws.FloatArith
import Derived.Laws.ComplexArith
namespace Go.Proofs.Ytgibokbkobcnaaa.Fl
open Ieee
set_option linter.unusedVariables false
set_option linter.unusedSimpArgs false

theorem double_least : double.leastPlace = -1074 := by decide +kernel
theorem double_binade : double.binade = 2 ^ 52 := by decide +kernel
theorem double_inf : double.infRung = 2047 * 2 ^ 52 := by decide +kernel
theorem double_weight : double.signWeight = 2 ^ 63 := by decide +kernel

/-- The word of a whole number with a sign. -/
def fw (s : Bool) (m : Nat) : Nat := double.nearest s m 0

theorem log_le {m : Nat} (hm : m < 2 ^ 53) : m.log2 ≤ 52 := by
  by_cases h0 : m = 0
  · subst h0; decide
  · have := (Nat.log2_lt h0).2 hm
    omega

/-- What a number below 2^53 is written as. -/
theorem nearest_eq (s : Bool) (m a : Nat) (h0 : m ≠ 0) (hm : m < 2 ^ 53) :
    double.nearest s (m * 2 ^ a) (-(a : Int)) = double.word s ((m.log2 + 1022) * 2 ^ 52 + m * 2 ^ (52 - m.log2)) := by
  have hL := log_le hm
  have hp : 0 < 2 ^ a := Nat.two_pow_pos a
  have hne : m * 2 ^ a ≠ 0 := Nat.mul_ne_zero h0 (by omega)
  have hlog : (m * 2 ^ a).log2 = m.log2 + a := by
    rw [Nat.log2_eq_iff hne]
    have h1 := (Nat.log2_eq_iff h0).1 rfl
    constructor
    · rw [Nat.pow_add]; exact Nat.mul_le_mul_right _ h1.1
    · rw [show m.log2 + a + 1 = (m.log2 + 1) + a by omega, Nat.pow_add]
      exact Nat.mul_lt_mul_of_pos_right h1.2 hp
  have hb := (Nat.log2_eq_iff h0).1 rfl
  have hfb : (double.fractionBits : Int) = 52 := rfl
  unfold Format.nearest
  rw [if_neg hne, hlog, double_least, double_binade, double_inf, hfb]
  have hlast : max (-(a : Int) + ((m.log2 + a : Nat) : Int) - 52) (-1074) = (m.log2 : Int) - 52 := by omega
  simp only [hlast]
  have e1 : ((m.log2 : Int) - 52 - -1074).toNat = m.log2 + 1022 := by omega
  rw [e1]
  have key : Toward.even.cut s ((m * 2 ^ a) <<< (-(a : Int) - ((m.log2 : Int) - 52)).toNat) ((m.log2 : Int) - 52 - -(a : Int)).toNat = m * 2 ^ (52 - m.log2) := by
    by_cases hc : a ≤ 52 - m.log2
    · have e2 : (-(a : Int) - ((m.log2 : Int) - 52)).toNat = 52 - m.log2 - a := by omega
      have e3 : ((m.log2 : Int) - 52 - -(a : Int)).toNat = 0 := by omega
      rw [e2, e3, Nat.shiftLeft_eq, Nat.mul_assoc, ← Nat.pow_add, show a + (52 - m.log2 - a) = 52 - m.log2 by omega]
      simp [Toward.cut, Nat.mod_one]
    · have e2 : (-(a : Int) - ((m.log2 : Int) - 52)).toNat = 0 := by omega
      have e3 : ((m.log2 : Int) - 52 - -(a : Int)).toNat = a - (52 - m.log2) := by omega
      rw [e2, e3, Nat.shiftLeft_zero]
      have e4 : m * 2 ^ a = m * 2 ^ (52 - m.log2) * 2 ^ (a - (52 - m.log2)) := by
        rw [Nat.mul_assoc, ← Nat.pow_add, show 52 - m.log2 + (a - (52 - m.log2)) = a by omega]
      unfold Toward.cut
      rw [hlog, Nat.min_eq_left (by omega), Nat.shiftLeft_eq, Nat.one_mul]
      have e5 : m * 2 ^ a / 2 ^ (a - (52 - m.log2)) = m * 2 ^ (52 - m.log2) := by
        rw [e4]; exact Nat.mul_div_cancel _ (Nat.two_pow_pos _)
      have e6 : m * 2 ^ a % 2 ^ (a - (52 - m.log2)) = 0 := by
        rw [e4]; exact Nat.mul_mod_left _ _
      simp only [e5, e6]
      have : ¬ (2 ^ (a - (52 - m.log2)) = 0) := by have := Nat.two_pow_pos (a - (52 - m.log2)); omega
      simp [this]
  rw [key]
  congr 1
  refine Nat.min_eq_left ?_
  have h53 : m * 2 ^ (52 - m.log2) < 2 ^ 53 := by
    have : m * 2 ^ (52 - m.log2) < 2 ^ (m.log2 + 1) * 2 ^ (52 - m.log2) := Nat.mul_lt_mul_of_pos_right hb.2 (Nat.two_pow_pos _)
    rwa [← Nat.pow_add, show m.log2 + 1 + (52 - m.log2) = 53 by omega] at this
  omega

theorem nearest_zero (s : Bool) (p : Int) : double.nearest s 0 p = double.word s 0 := by unfold Format.nearest; rw [if_pos rfl]

theorem nearest_scale (s : Bool) (m a : Nat) (hm : m < 2 ^ 53) : double.nearest s (m * 2 ^ a) (-(a : Int)) = fw s m := by
  by_cases h0 : m = 0
  · subst h0; rw [Nat.zero_mul, nearest_zero]; unfold fw; rw [nearest_zero]
  · have h1 := nearest_eq s m a h0 hm
    have h2 := nearest_eq s m 0 h0 hm
    rw [Nat.pow_zero, Nat.mul_one] at h2
    rw [h1]; unfold fw; exact h2.symm

theorem word_mod (s : Bool) {r : Nat} (h : r < 2 ^ 63) : double.word s r % 2 ^ 63 = r := by
  unfold Format.word; rw [double_weight]; cases s
  · exact Nat.mod_eq_of_lt h
  · rw [if_pos rfl, Nat.add_mod_left]; exact Nat.mod_eq_of_lt h
theorem word_div (s : Bool) {r : Nat} (h : r < 2 ^ 63) : (double.word s r / 2 ^ 63 % 2 == 1) = s := by
  unfold Format.word; rw [double_weight]; cases s
  · simp [Nat.div_eq_of_lt h]
  · rw [if_pos rfl, Nat.add_div_left _ (Nat.two_pow_pos 63), Nat.div_eq_of_lt h]; rfl

/-- How it is read. -/
theorem read_fw (s : Bool) (m : Nat) (hm : m < 2 ^ 53) : ∃ e : Nat, double.read (fw s m) = .number s (m * 2 ^ e) (-(e : Int)) := by
  by_cases h0 : m = 0
  · subst h0
    refine ⟨1074, ?_⟩
    unfold fw; rw [nearest_zero]
    unfold Format.read
    rw [double_weight, word_mod s (by omega), word_div s (by omega), double_binade, if_pos (Nat.two_pow_pos _), double_least]
    generalize (2 : Nat) ^ 1074 = q
    rw [Nat.zero_mul]
    rfl
  · have hL := log_le hm
    have hb := (Nat.log2_eq_iff h0).1 rfl
    have h2 := nearest_eq s m 0 h0 hm
    rw [Nat.pow_zero, Nat.mul_one] at h2
    have hlo : 2 ^ 52 ≤ m * 2 ^ (52 - m.log2) := by
      have : 2 ^ m.log2 * 2 ^ (52 - m.log2) ≤ m * 2 ^ (52 - m.log2) := Nat.mul_le_mul_right _ hb.1
      rwa [← Nat.pow_add, show m.log2 + (52 - m.log2) = 52 by omega] at this
    have hhi : m * 2 ^ (52 - m.log2) < 2 ^ 53 := by
      have : m * 2 ^ (52 - m.log2) < 2 ^ (m.log2 + 1) * 2 ^ (52 - m.log2) := Nat.mul_lt_mul_of_pos_right hb.2 (Nat.two_pow_pos _)
      rwa [← Nat.pow_add, show m.log2 + 1 + (52 - m.log2) = 53 by omega] at this
    refine ⟨52 - m.log2, ?_⟩
    have hfw : fw s m = double.word s ((m.log2 + 1022) * 2 ^ 52 + m * 2 ^ (52 - m.log2)) := h2
    rw [hfw]
    generalize m * 2 ^ (52 - m.log2) = q at hlo hhi ⊢
    generalize hLg : m.log2 = L at hL ⊢
    have hr : (L + 1022) * 2 ^ 52 + q < 2 ^ 63 := by omega
    unfold Format.read
    rw [double_weight, word_mod s hr, word_div s hr, double_binade, double_least, double_inf]
    have hdiv : ((L + 1022) * 2 ^ 52 + q) / 2 ^ 52 = L + 1023 := by omega
    have hmod : ((L + 1022) * 2 ^ 52 + q) % 2 ^ 52 = q - 2 ^ 52 := by omega
    simp only [hdiv, hmod]
    rw [if_neg (by omega), if_pos (by omega)]
    have e1 : 2 ^ 52 + (q - 2 ^ 52) = q := by omega
    have e2 : (-1074 : Int) + ((L + 1023 - 1 : Nat) : Int) = -((52 - L : Nat) : Int) := by omega
    rw [e1, e2]

/-- A number's word. -/
def of (n : Int) : Nat := fw (decide (n < 0)) n.natAbs
/-- A word that stands for a whole number (0 may have either sign). -/
def Is (x : Nat) (n : Int) : Prop := ∃ s m, x = fw s m ∧ m < 2 ^ 53 ∧ n = signed s m 0

theorem signed_mul (s : Bool) (m e : Nat) : signed s m e = signed s m 0 * (2 ^ e : Nat) := by
  unfold signed
  rw [Nat.shiftLeft_eq, Nat.shiftLeft_zero]
  cases s
  · simp
  · simp [Int.neg_mul]
theorem signed_natAbs (s : Bool) (m : Nat) : (signed s m 0).natAbs = m := by
  unfold signed; rw [Nat.shiftLeft_zero]; cases s <;> simp
theorem signed_of (n : Int) : signed (decide (n < 0)) n.natAbs 0 = n := by
  unfold signed; rw [Nat.shiftLeft_zero]
  by_cases h : n < 0
  · rw [decide_eq_true h, if_pos rfl]; omega
  · rw [decide_eq_false h, if_neg (by simp)]; omega
theorem is_fw (s : Bool) (m : Nat) (h : m < 2 ^ 53) : Is (fw s m) (signed s m 0) := ⟨s, m, rfl, h, rfl⟩
theorem is_of (n : Int) (h : n.natAbs < 2 ^ 53) : Is (of n) n := ⟨_, _, rfl, h, (signed_of n).symm⟩
theorem of_int (n : Int) : floatOfInt .f64 n = of n := rfl

theorem mul {x y : Nat} {a b : Int} (hx : Is x a) (hy : Is y b) (h : (a * b).natAbs < 2 ^ 53) : ∃ z, floatBits .mul .f64 x y = some z ∧ Is z (a * b) := by
  obtain ⟨s, m, rfl, hm, rfl⟩ := hx
  obtain ⟨t, n, rfl, hn, rfl⟩ := hy
  obtain ⟨e, he⟩ := read_fw s m hm
  obtain ⟨f, hf⟩ := read_fw t n hn
  have hmn : m * n < 2 ^ 53 := by
    rw [Int.natAbs_mul, signed_natAbs, signed_natAbs] at h; exact h
  refine ⟨fw (s ^^ t) (m * n), ?_, s ^^ t, m * n, rfl, hmn, ?_⟩
  · show double.mul (fw s m) (fw t n) = _
    unfold Format.mul
    rw [he, hf]
    simp only [Datum.product, Option.map_some, Format.write]
    rw [show m * 2 ^ e * (n * 2 ^ f) = m * n * 2 ^ (e + f) by rw [Nat.pow_add]; ac_rfl, show -(e : Int) + -(f : Int) = -((e + f : Nat) : Int) by omega, nearest_scale _ _ _ hmn]
  · unfold signed
    cases s <;> cases t <;> simp [Nat.shiftLeft_zero, Int.neg_mul, Int.mul_neg]

theorem sum_aux {s t : Bool} {m n : Nat} {e f : Nat} (h : (signed s m 0 + signed t n 0).natAbs < 2 ^ 53) :
    ∃ z, (Datum.sum (.number s (m * 2 ^ e) (-(e : Int))) (.number t (n * 2 ^ f) (-(f : Int)))).map double.write = some z ∧ Is z (signed s m 0 + signed t n 0) := by
  simp only [Datum.sum]
  have e1 : (-(e : Int) - min (-(e : Int)) (-(f : Int))).toNat = max e f - e := by omega
  have e2 : (-(f : Int) - min (-(e : Int)) (-(f : Int))).toNat = max e f - f := by omega
  have e3 : min (-(e : Int)) (-(f : Int)) = -((max e f : Nat) : Int) := by omega
  have key : ∀ (s : Bool) (m e E : Nat), e ≤ E → signed s (m * 2 ^ e) (E - e) = signed s m 0 * (2 ^ E : Nat) := by
    intro s m e E hE
    rw [← signed_mul s m E]
    unfold signed
    rw [Nat.shiftLeft_eq, Nat.shiftLeft_eq, Nat.mul_assoc, ← Nat.pow_add, show e + (E - e) = E by omega]
  rw [e1, e2, key s m e _ (by omega), key t n f _ (by omega), e3]
  generalize max e f = E
  generalize hA : signed s m 0 = A at h ⊢
  generalize hB : signed t n 0 = B at h ⊢
  rw [← Int.add_mul]
  have hp : (0 : Int) < ((2 ^ E : Nat) : Int) := by exact_mod_cast Nat.two_pow_pos E
  have hz : ((A + B) * ((2 ^ E : Nat) : Int) = 0) ↔ (A + B = 0) := by
    constructor
    · intro hh; rcases Int.mul_eq_zero.1 hh with h1 | h1
      · exact h1
      · omega
    · intro hh; rw [hh, Int.zero_mul]
  have hl : ((A + B) * ((2 ^ E : Nat) : Int) < 0) ↔ (A + B < 0) := by
    constructor
    · intro hh
      by_cases hc : A + B < 0
      · exact hc
      · have := Int.mul_nonneg (show 0 ≤ A + B by omega) (Int.le_of_lt hp); omega
    · intro hh; exact Int.mul_neg_of_neg_of_pos hh hp
  have hab : ((A + B) * ((2 ^ E : Nat) : Int)).natAbs = (A + B).natAbs * 2 ^ E := by rw [Int.natAbs_mul]; simp
  simp only [Option.map_some, Format.write, hab, nearest_scale _ _ _ h]
  refine ⟨_, rfl, _, _, rfl, h, ?_⟩
  by_cases hz' : A + B = 0
  · rw [if_pos (hz.2 hz'), hz']; unfold signed; cases (s && t) <;> simp
  · rw [if_neg (fun hh => hz' (hz.1 hh))]
    rw [show decide ((A + B) * ((2 ^ E : Nat) : Int) < 0) = decide (A + B < 0) by simp only [hl]]
    exact (signed_of _).symm

theorem add {x y : Nat} {a b : Int} (hx : Is x a) (hy : Is y b) (h : (a + b).natAbs < 2 ^ 53) : ∃ z, floatBits .add .f64 x y = some z ∧ Is z (a + b) := by
  obtain ⟨s, m, rfl, hm, rfl⟩ := hx
  obtain ⟨t, n, rfl, hn, rfl⟩ := hy
  obtain ⟨e, he⟩ := read_fw s m hm
  obtain ⟨f, hf⟩ := read_fw t n hn
  show ∃ z, double.add (fw s m) (fw t n) = some z ∧ _
  unfold Format.add
  rw [he, hf]
  exact sum_aux h

theorem signed_not (t : Bool) (n : Nat) : signed (!t) n 0 = -signed t n 0 := by unfold signed; cases t <;> simp
theorem sub {x y : Nat} {a b : Int} (hx : Is x a) (hy : Is y b) (h : (a - b).natAbs < 2 ^ 53) : ∃ z, floatBits .sub .f64 x y = some z ∧ Is z (a - b) := by
  obtain ⟨s, m, rfl, hm, rfl⟩ := hx
  obtain ⟨t, n, rfl, hn, rfl⟩ := hy
  obtain ⟨e, he⟩ := read_fw s m hm
  obtain ⟨f, hf⟩ := read_fw t n hn
  show ∃ z, double.sub (fw s m) (fw t n) = some z ∧ _
  unfold Format.sub
  rw [he, hf, Int.sub_eq_add_neg, ← signed_not]
  rw [Int.sub_eq_add_neg, ← signed_not] at h
  exact sum_aux h

theorem fw_lt (s : Bool) (m : Nat) : fw s m < 2 ^ 64 := double.nearest_lt s m 0
theorem word_neg (s : Bool) {r : Nat} (h : r < 2 ^ 63) : double.word s r ^^^ 2 ^ 63 = double.word (!s) r := by
  have key : r ^^^ 2 ^ 63 = 2 ^ 63 + r := by
    apply Nat.eq_of_testBit_eq
    intro i
    rw [Nat.testBit_xor, Nat.testBit_two_pow]
    by_cases hi : i = 63
    · subst hi
      rw [Nat.testBit_two_pow_add_eq, Nat.testBit_lt_two_pow h]
      rfl
    · by_cases h2 : i < 63
      · rw [Nat.testBit_two_pow_add_gt h2, decide_eq_false (fun e => hi e.symm), Bool.xor_false]
      · have a1 : r.testBit i = false := Nat.testBit_lt_two_pow (Nat.lt_of_lt_of_le h (Nat.pow_le_pow_right (by omega) (by omega)))
        have a2 : (2 ^ 63 + r).testBit i = false := Nat.testBit_lt_two_pow (Nat.lt_of_lt_of_le (show 2 ^ 63 + r < 2 ^ 64 by omega) (Nat.pow_le_pow_right (by omega) (by omega)))
        rw [a1, a2, decide_eq_false (fun e => hi e.symm)]; rfl
  unfold Format.word
  rw [double_weight]
  cases s
  · exact key
  · show (2 ^ 63 + r) ^^^ 2 ^ 63 = r
    rw [← key, Nat.xor_assoc, Nat.xor_self, Nat.xor_zero]

theorem fw_word (s : Bool) (m : Nat) (hm : m < 2 ^ 53) : ∃ r, r < 2 ^ 63 ∧ ∀ s, fw s m = double.word s r := by
  by_cases h0 : m = 0
  · subst h0
    exact ⟨0, by omega, fun s => by unfold fw; rw [nearest_zero]⟩
  · have hL := log_le hm
    have hb := (Nat.log2_eq_iff h0).1 rfl
    have hhi : m * 2 ^ (52 - m.log2) < 2 ^ 53 := by
      have : m * 2 ^ (52 - m.log2) < 2 ^ (m.log2 + 1) * 2 ^ (52 - m.log2) := Nat.mul_lt_mul_of_pos_right hb.2 (Nat.two_pow_pos _)
      rwa [← Nat.pow_add, show m.log2 + 1 + (52 - m.log2) = 53 by omega] at this
    refine ⟨(m.log2 + 1022) * 2 ^ 52 + m * 2 ^ (52 - m.log2), by omega, fun s => ?_⟩
    have h2 := nearest_eq s m 0 h0 hm
    rw [Nat.pow_zero, Nat.mul_one] at h2
    exact h2
theorem neg {x : Nat} {a : Int} (hx : Is x a) : Is (Op.negFloat .f64 x) (-a) := by
  obtain ⟨s, m, rfl, hm, rfl⟩ := hx
  obtain ⟨r, hr, hw⟩ := fw_word s m hm
  refine ⟨!s, m, ?_, hm, (signed_not s m).symm⟩
  rw [hw, hw]
  exact word_neg s hr

theorem toInt {x : Nat} {a : Int} (hx : Is x a) : floatToIntVal .f64 x .i64 = some a := by
  obtain ⟨s, m, rfl, hm, rfl⟩ := hx
  obtain ⟨e, he⟩ := read_fw s m hm
  have hd : FloatKind.f64.decode (fw s m) = .number s (m * 2 ^ e) (-(e : Int)) := he
  have key : (Datum.number s (m * 2 ^ e) (-(e : Int))).toInt .zero = some (signed s m 0) := by
    unfold Datum.toInt Datum.integral
    have e1 : (-(e : Int)).toNat = 0 := by omega
    have e2 : (- -(e : Int)).toNat = e := by omega
    simp only [e1, e2, Nat.shiftLeft_zero]
    have : Toward.zero.cut s (m * 2 ^ e) e = m := by
      unfold Toward.cut
      by_cases h0 : m = 0
      · subst h0; simp
      · have hne : m * 2 ^ e ≠ 0 := Nat.mul_ne_zero h0 (by have := Nat.two_pow_pos e; omega)
        have hle : e ≤ (m * 2 ^ e).log2 := by
          rw [Nat.le_log2 hne]
          exact Nat.le_mul_of_pos_left _ (by omega)
        rw [Nat.min_eq_left (by omega), Nat.shiftLeft_eq, Nat.one_mul]
        simp [Nat.mul_div_cancel _ (Nat.two_pow_pos e)]
    rw [this]
  unfold floatToIntVal
  rw [hd, key]
  simp only []
  rw [if_pos]
  have : (signed s m 0).natAbs < 2 ^ 53 := by rw [signed_natAbs]; exact hm
  constructor
  · show (-9223372036854775808 : Int) ≤ _; omega
  · show _ ≤ (9223372036854775807 : Int); omega

theorem order {x y : Nat} {a b : Int} (hx : Is x a) (hy : Is y b) : FloatKind.f64.format.order x y = some (compare a b) := by
  obtain ⟨s, m, rfl, hm, rfl⟩ := hx
  obtain ⟨t, n, rfl, hn, rfl⟩ := hy
  obtain ⟨e, he⟩ := read_fw s m hm
  obtain ⟨f, hf⟩ := read_fw t n hn
  show double.order (fw s m) (fw t n) = _
  unfold Format.order
  rw [he, hf]
  simp only [Datum.order]
  have e1 : (-(e : Int) - min (-(e : Int)) (-(f : Int))).toNat = max e f - e := by omega
  have e2 : (-(f : Int) - min (-(e : Int)) (-(f : Int))).toNat = max e f - f := by omega
  have key : ∀ (s : Bool) (m e E : Nat), e ≤ E → signed s (m * 2 ^ e) (E - e) = signed s m 0 * (2 ^ E : Nat) := by
    intro s m e E hE
    rw [← signed_mul s m E]
    unfold signed
    rw [Nat.shiftLeft_eq, Nat.shiftLeft_eq, Nat.mul_assoc, ← Nat.pow_add, show e + (E - e) = E by omega]
  rw [e1, e2, key s m e _ (by omega), key t n f _ (by omega)]
  generalize max e f = E
  have hp : (0 : Int) < ((2 ^ E : Nat) : Int) := by exact_mod_cast Nat.two_pow_pos E
  generalize signed s m 0 = A
  generalize signed t n 0 = B
  congr 1
  rcases Int.lt_trichotomy A B with h | h | h
  · rw [Int.compare_eq_lt.2 h, Int.compare_eq_lt.2 (Int.mul_lt_mul_of_pos_right h hp)]
  · subst h; rw [Int.compare_eq_eq.2 rfl, Int.compare_eq_eq.2 rfl]
  · rw [Int.compare_eq_gt.2 h, Int.compare_eq_gt.2 (Int.mul_lt_mul_of_pos_right h hp)]

/-- A complex number of two whole ones. -/
theorem cmul {a b c d : Nat} {p q r s : Int} (ha : Is a p) (hb : Is b q) (hc : Is c r) (hd : Is d s) (h1 : (p * r).natAbs < 2 ^ 52) (h2 : (q * s).natAbs < 2 ^ 52) (h3 : (p * s).natAbs < 2 ^ 52) (h4 : (q * r).natAbs < 2 ^ 52) :
    ∃ re im, cMulBits a b c d = some (re, im) ∧ Is re (p * r - q * s) ∧ Is im (p * s + q * r) := by
  obtain ⟨ac, e1, i1⟩ := mul ha hc (by omega)
  obtain ⟨bd, e2, i2⟩ := mul hb hd (by omega)
  obtain ⟨re, e3, i3⟩ := sub i1 i2 (by omega)
  obtain ⟨ad, e4, i4⟩ := mul ha hd (by omega)
  obtain ⟨bc, e5, i5⟩ := mul hb hc (by omega)
  obtain ⟨im, e6, i6⟩ := add i4 i5 (by omega)
  exact ⟨re, im, by unfold cMulBits; rw [e1, e2, e4, e5]; simp only [Option.bind_some, e3, e6], i3, i6⟩
theorem csub {a b c d : Nat} {p q r s : Int} (ha : Is a p) (hb : Is b q) (hc : Is c r) (hd : Is d s) (h1 : (p - r).natAbs < 2 ^ 53) (h2 : (q - s).natAbs < 2 ^ 53) :
    ∃ re im, cSumBits .sub .f64 a b c d = some (re, im) ∧ Is re (p - r) ∧ Is im (q - s) := by
  obtain ⟨re, e1, i1⟩ := sub ha hc h1
  obtain ⟨im, e2, i2⟩ := sub hb hd h2
  exact ⟨re, im, by unfold cSumBits; rw [e1, e2]; rfl, i1, i2⟩
end Go.Proofs.Ytgibokbkobcnaaa.Fl
