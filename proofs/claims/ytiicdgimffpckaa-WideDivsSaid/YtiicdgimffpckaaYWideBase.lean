/- wide (layer 1): the document's examples hold; sums, differences and orders of two words. -/
import Derived.Test.YtiicdgimffpckaaWd0
namespace Go.Proofs.Ytiicdgimffpckaa.W.Base
open Go.RowKit Go.Proofs.YtiicdgimffpckaaW.PrintWords Go.Proofs.YtiicdgimffpckaaW.PrintLast Go.Proofs.YtiicdgimffpckaaW.PrintMore Go.Proofs.Ytiicdgimffpckaa.W
set_option linter.unusedVariables false
set_option linter.unusedSimpArgs false

theorem bs {α β : Type} (a : α) (f : α → Option β) : (some a).bind f = f a := by
  cases h : f a <;> simp [h]
theorem w_id {x : Int} (h1 : -9223372036854775808 ≤ x) (h2 : x < 9223372036854775808) : wrap64 x = x := by
  unfold wrap64
  omega
theorem u_w (x : Int) : IntKind.u64.wrap x = x % 18446744073709551616 := IntKind.wrap_u64 x
theorem i64_bd {x : Int} (h : (Lit.int .i64 x).wf = true) : -9223372036854775808 ≤ x ∧ x < 9223372036854775808 := by
  simp [Lit.wf, IntKind.min, IntKind.max, IntKind.bits, IntKind.signed] at h
  omega
theorem u64_bd {x : Int} (h : (Lit.int .u64 x).wf = true) : 0 ≤ x ∧ x < 18446744073709551616 := by
  simp [Lit.wf, IntKind.min, IntKind.max, IntKind.bits, IntKind.signed] at h
  omega
theorem u32_bd {x : Int} (h : (Lit.int .u32 x).wf = true) : 0 ≤ x ∧ x < 4294967296 := by
  simp [Lit.wf, IntKind.min, IntKind.max, IntKind.bits, IntKind.signed] at h
  omega
theorem alive_yes (K : Nat) : calamuslaw01_alive.f (K + 80) = some true := by
  have h : calamuslaw01_alive.f 80 = some true := by decide +kernel
  exact at_rounds (fun k => calamuslaw01_alive.mono k) (by omega) h
/-- Which is greater. -/
def cmp (a b c d : Int) : Int := if a > c then 1 else if a = c then (if b > d then 1 else if b = d then 0 else -1) else -1
theorem Cmp_ok (K : Nat) (a b c d : Int) : wide_Cmp.f (K + 1) a b c d = some (cmp a b c d) := by
  unfold wide_Cmp.f cmp
  by_cases h1 : a > c
  · rw [if_pos h1, if_pos h1, wide_Cmp.j0]
    rfl
  · rw [if_neg h1, if_neg h1]
    by_cases h2 : a = c
    · rw [if_pos h2, if_pos h2, wide_Cmp.j0]
      by_cases h3 : b > d
      · rw [if_pos h3, decide_eq_true h3]
        rfl
      · rw [if_neg h3, decide_eq_false h3]
        by_cases h4 : b = d
        · rw [if_pos h4, h2, h4]
          simp
        · rw [if_neg h4]
          simp [h4]
    · rw [if_neg h2, if_neg h2, wide_Cmp.j0]
      simp [h2]
theorem Add_ok {a b c d : Int} (hb : 0 ≤ b ∧ b < 18446744073709551616) (hd : 0 ≤ d ∧ d < 18446744073709551616) :
    wide_Add.f a b c d = some (wrap64 (a + c + (b + d) / 18446744073709551616), (b + d) % 18446744073709551616) := by
  unfold wide_Add.f
  rw [if_pos ⟨hb.1, hb.2, hd.1, hd.2⟩]
  unfold wrap64
  congr 2
  omega
theorem Sub_ok {a b c d : Int} (hb : 0 ≤ b ∧ b < 18446744073709551616) (hd : 0 ≤ d ∧ d < 18446744073709551616) :
    wide_Sub.f a b c d = some (wrap64 (a - c + (b - d) / 18446744073709551616), (b - d) % 18446744073709551616) := by
  unfold wide_Sub.f
  rw [if_pos ⟨hb.1, hb.2, hd.1, hd.2⟩]
  unfold wrap64
  congr 2
  · split <;> omega
  · omega
theorem Neg_ok {a b : Int} (hb : 0 ≤ b ∧ b < 18446744073709551616) :
    wide_Neg.f a b = some (wrap64 (- a + (- b) / 18446744073709551616), (- b) % 18446744073709551616) := by
  unfold wide_Neg.f
  rw [Sub_ok (by omega) hb, bs, Int.zero_sub, Int.zero_sub]
theorem Of_ok {a : Int} (h : -9223372036854775808 ≤ a ∧ a < 9223372036854775808) : wide_Of.f a = some (if a < 0 then -1 else 0, a % 18446744073709551616) := by
  unfold wide_Of.f
  rw [u_w]
  congr 2
  split <;> omega
theorem Small_ok {a b : Int} (ha : -9223372036854775808 ≤ a ∧ a < 9223372036854775808) (hb : 0 ≤ b ∧ b < 18446744073709551616) :
    wide_Small.f a b = some (if a = wrap64 b / 9223372036854775808 then (wrap64 b, true) else (0, false)) := by
  have hw : -9223372036854775808 ≤ wrap64 b ∧ wrap64 b < 9223372036854775808 := by unfold wrap64; omega
  have hm : wrap64 b % 18446744073709551616 = b := by unfold wrap64; omega
  unfold wide_Small.f
  have e : wide_Of.f (wrap64 b) = some (wrap64 b / 9223372036854775808, b) := by
    unfold wide_Of.f
    rw [u_w, hm]
  rw [e, bs]
  by_cases h : a = wrap64 b / 9223372036854775808
  · rw [if_pos h, if_neg (by simp [← h])]
  · rw [if_neg h, if_pos (by simp [h])]
theorem bits_low (a : Int) (h : 0 ≤ a ∧ a < 18446744073709551616) : Go.bits .and .u64 a 4294967295 = a % 4294967296 := by
  exact Go.and_low32 a h.1 h.2
end Go.Proofs.Ytiicdgimffpckaa.W.Base
