/- The law OutlineBegins over values alone: a contour that begins with another knot has the same pieces, in another order. -/
import Derived.Test.YtoghjnmcimniaaaSOutlineBegins
import Derived.Test.YtoghjnmcimniaaaYAlike
namespace Go.Proofs.Ytoghjnmcimniaaa.O.outlineBegins
open Go.RowKit Go.Proofs.YtoghjnmcimniaaaW.PrintWords Go.Proofs.YtoghjnmcimniaaaW.PrintLast Go.Proofs.YtoghjnmcimniaaaW.PrintMore Go.Proofs.Ytoghjnmcimniaaa.O Go.Proofs.Ytoghjnmcimniaaa.O.Base
set_option linter.unusedVariables false
theorem u16_bd {x : Int} (h : (Lit.int .u16 x).wf = true) : 0 ≤ x ∧ x ≤ 65535 := by
  simp [Lit.wf, IntKind.min, IntKind.max, IntKind.bits, IntKind.signed] at h
  omega
theorem map_rv (b : List S37) : b.map (rv false) = b := by
  induction b with
  | nil => rfl
  | cons t b ih => rw [List.map_cons, ih]; rfl
theorem pure : calamuslaw11_OutlineBegins.Pure := by
  intro l n hl hn
  obtain ⟨_, _, hG⟩ := hl
  have hG' : ∀ k ∈ l, GK k := fun k hk => ⟨i64_bd (hG k hk).1, i64_bd (hG k hk).2.1⟩
  obtain ⟨n0, n1⟩ := u16_bd hn
  by_cases h0 : l.length = 0
  · refine ⟨12, ?_⟩
    unfold calamuslaw11_OutlineBegins.f
    rw [alive_yes 0, bs, if_pos rfl, if_pos (by omega)]
    simp only [calamuslaw11_OutlineBegins.j0]
    rfl
  · by_cases hlen : l.length > 300
    · refine ⟨12, ?_⟩
      unfold calamuslaw11_OutlineBegins.f
      rw [alive_yes 0, bs, if_pos rfl, if_neg (by omega), decide_eq_true (by omega)]
      simp only [calamuslaw11_OutlineBegins.j0]
      rfl
    · have hpos : 0 < l.length := by omega
      obtain ⟨m, rfl⟩ := Int.eq_ofNat_of_zero_le n0
      have hm : Int.tmod (wrap64 (m : Int)) (l.length : Int) = ((m % l.length : Nat) : Int) := by rw [w_id (by omega) (by omega)]; rfl
      have hk := Nat.mod_lt m hpos
      generalize hkk : m % l.length = k at hm hk
      have hdl : (l.drop k ++ l.take k).length = l.length := by simp; omega
      have hG2 : ∀ q ∈ l.drop k ++ l.take k, GK q := fun q hq => by
        rcases List.mem_append.1 hq with h | h
        · exact hG' q (List.mem_of_mem_drop h)
        · exact hG' q (List.mem_of_mem_take h)
      obtain ⟨f, hf, _, hs⟩ := segs_ok l hpos (by omega) hG'
      obtain ⟨f', hf', _, hs'⟩ := segs_ok (l.drop k ++ l.take k) (by omega) (by omega) hG2
      rw [hdl, pcs_rot l k hk] at hs'
      have hp1 := pcs_len l (f + 2 * l.length - 1) l.length
      have hp2 := pcs_len l (f' + 2 * l.length - 1 + k) l.length
      obtain ⟨K, hK⟩ := alike_ok (pcs l (f + 2 * l.length - 1) l.length) (pcs l (f' + 2 * l.length - 1 + k) l.length) false (by omega) (by omega) (by rw [map_rv]; exact pcs_any l _ _)
      refine ⟨K + l.length + 12 + 1, ?_⟩
      unfold calamuslaw11_OutlineBegins.f
      rw [show K + l.length + 12 + 1 = (K + l.length + 1) + 12 by omega, alive_yes (K + l.length + 1), bs, if_pos rfl, if_neg (by omega), decide_eq_false (by omega), show (K + l.length + 1) + 12 = K + l.length + 12 + 1 by omega]
      simp only [calamuslaw11_OutlineBegins.j0]
      rw [if_neg (by simp), if_neg (by omega), bs, hm, if_pos (by omega), if_pos (by omega), bs, Int.toNat_natCast, List.nil_append, if_pos (by simp; omega), bs, bs, if_pos (by simp; omega), show K + l.length + 12 = K + 11 + l.length + 1 by omega, hs (K + 11), bs, hs' (K + 11), bs, hK _ (by omega)]
      rfl
end Go.Proofs.Ytoghjnmcimniaaa.O.outlineBegins
