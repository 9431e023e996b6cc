/- The document's examples of layer 11 (outline) hold; small facts. -/
import Derived.Test.YtoghjnmcimniaaaYSegsBase
namespace Go.Proofs.Ytoghjnmcimniaaa.O.Base
open Go.RowKit Go.Proofs.YtoghjnmcimniaaaW.PrintWords Go.Proofs.YtoghjnmcimniaaaW.PrintLast Go.Proofs.YtoghjnmcimniaaaW.PrintMore Go.Proofs.Ytoghjnmcimniaaa.O
theorem alive_yes (K : Nat) : calamuslaw11_alive.f (K + 12) = some true := by
  have h : calamuslaw11_alive.f 12 = some true := by decide +kernel
  exact at_rounds (fun k => calamuslaw11_alive.mono k) (by omega) h
theorem i64_bd {x : Int} (h : (Lit.int .i64 x).wf = true) : I64 x := by
  simp [Lit.wf, IntKind.min, IntKind.max, IntKind.bits, IntKind.signed] at h
  unfold I64
  omega
theorem ref_half_ok {a b : Int} (ha : I64 a) (hb : I64 b) : calamusref11_half.f a b = some (hf a b) := by
  unfold I64 at ha hb
  have e1 : Int.tdiv a 2 = if 0 ≤ a then a / 2 else -(-a / 2) := by
    split
    · exact Int.tdiv_eq_ediv_of_nonneg (by omega)
    · have : a = -(-a) := by omega
      rw [this, Int.neg_tdiv, Int.tdiv_eq_ediv_of_nonneg (by omega)]
      omega
  have e2 : Int.tdiv b 2 = if 0 ≤ b then b / 2 else -(-b / 2) := by
    split
    · exact Int.tdiv_eq_ediv_of_nonneg (by omega)
    · have : b = -(-b) := by omega
      rw [this, Int.neg_tdiv, Int.tdiv_eq_ediv_of_nonneg (by omega)]
      omega
  unfold calamusref11_half.f hf
  rw [e1, e2]
  generalize hp : (if 0 ≤ a then a / 2 else -(-a / 2)) = p
  generalize hq : (if 0 ≤ b then b / 2 else -(-b / 2)) = q
  have f1 : wrap64 p = p := by rw [w_id] <;> (split at hp <;> omega)
  have f2 : wrap64 q = q := by rw [w_id] <;> (split at hq <;> omega)
  rw [f1, f2]
  have f3 : wrap64 (2 * p) = 2 * p := by rw [w_id] <;> (split at hp <;> omega)
  have f4 : wrap64 (2 * q) = 2 * q := by rw [w_id] <;> (split at hq <;> omega)
  rw [f3, f4]
  have f5 : wrap64 (a - 2 * p) = a - 2 * p := by rw [w_id] <;> (split at hp <;> omega)
  rw [f5]
  have f6 : wrap64 (wrap64 (a - 2 * p + b) - 2 * q) = a - 2 * p + b - 2 * q := by
    unfold wrap64
    split at hp <;> split at hq <;> omega
  rw [f6]
  have f7 : wrap64 (p + q) = p + q := by rw [w_id] <;> (split at hp <;> split at hq <;> omega)
  rw [f7]
  by_cases h1 : a - 2 * p + b - 2 * q = 2
  · rw [if_pos h1]
    congr 1
    rw [w_id] <;> (split at hp <;> split at hq <;> omega)
  · rw [if_neg h1]
    by_cases h2 : a - 2 * p + b - 2 * q < 0
    · rw [if_pos h2]
      congr 1
      rw [w_id] <;> (split at hp <;> split at hq <;> omega)
    · rw [if_neg h2]
      congr 1
      split at hp <;> split at hq <;> omega
theorem ref_mid_ok {a b c d : Int} (ha : I64 a) (hb : I64 b) (hc : I64 c) (hd : I64 d) : calamusref11_Mid.f a b c d = some (hf a c, hf b d) := by
  unfold calamusref11_Mid.f
  rw [ref_half_ok ha hc, bs, ref_half_ok hb hd, bs]
end Go.Proofs.Ytoghjnmcimniaaa.O.Base
