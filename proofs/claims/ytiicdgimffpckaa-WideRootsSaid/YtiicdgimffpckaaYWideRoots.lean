/- The law WideRoots over values alone. -/
import Derived.Test.YtiicdgimffpckaaSWideRoots
import Derived.Test.YtiicdgimffpckaaYWideRefBits
namespace Go.Proofs.Ytiicdgimffpckaa.W.wideRoots
open Go.RowKit Go.Proofs.YtiicdgimffpckaaW.PrintWords Go.Proofs.YtiicdgimffpckaaW.PrintLast Go.Proofs.YtiicdgimffpckaaW.PrintMore Go.Proofs.Ytiicdgimffpckaa.W Go.Proofs.Ytiicdgimffpckaa.W.Base
set_option linter.unusedVariables false
set_option linter.unusedSimpArgs false
theorem pure : calamuslaw01_WideRoots.Pure := by
  intro x hx
  obtain ⟨h, l⟩ := x
  have hh := i64_bd hx.1
  have hl := u64_bd hx.2
  simp only at hh hl
  refine ⟨0 + 80, ?_⟩
  show calamuslaw01_WideRoots.f (0 + 80) h l = some true
  unfold calamuslaw01_WideRoots.f
  rw [alive_yes 0, bs, if_pos rfl]
  unfold calamuslaw01_Two_own.f
  rw [bs]
  by_cases h0 : h < 0
  · simp only
    have e : wide_Root.f (0 + 80) h l = some (0, 2) := by unfold wide_Root.f; rw [if_pos h0]
    rw [e, bs, if_pos h0, if_pos rfl]
    rfl
  · obtain ⟨s, e1, e2, e3, e4, e5⟩ := Root_ok 15 (h := h) (l := l) (by omega) hl
    obtain ⟨a, ea, ha⟩ := ref_D (h := h) hl
    obtain ⟨o, eo, ho⟩ := Of_D (h := 0) (l := s) ⟨e2, e3⟩
    have z : D (2 ^ 64 * 0) (0, 0, 0, 0, 0, 0, 0, 0) := nil_D
    have hV : wv h l = h * 18446744073709551616 + l := by unfold wv; omega
    obtain ⟨t, u, eu, hu, g1, g2⟩ := root_ref h l (by omega) hl ha 15 64 0 (0, 0, 0, 0, 0, 0, 0, 0) (by omega) (by omega) (by decide) z (by rw [hV]; simp; omega) (by
      have : ((2 : Int) ^ 64 * 0 + 2 ^ 64) = 18446744073709551616 := by decide
      rw [this, hV]
      omega)
    rw [hV] at g1 g2
    have ht := hu.range
    have hst : t = s := root_only ht.1 e2 g1 g2 e4 e5
    subst hst
    have h0t : wv 0 t = t := by unfold wv; omega
    rw [h0t] at ho
    obtain rfl := ho.only hu
    have er : calamusref01_Root.f (0 + 80) a.1 a.2.1 a.2.2.1 a.2.2.2.1 a.2.2.2.2.1 a.2.2.2.2.2.1 a.2.2.2.2.2.2.1 a.2.2.2.2.2.2.2 = some o := eu
    have ew : wide_Root.f (0 + 80) h l = some (t, 0) := e1
    simp only
    rw [ew, bs, if_neg h0, if_pos rfl, eo, bs, ea, bs, er, bs]
    simp
end Go.Proofs.Ytiicdgimffpckaa.W.wideRoots
