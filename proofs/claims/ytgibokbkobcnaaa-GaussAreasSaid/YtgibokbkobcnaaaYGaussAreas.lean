/- The law GaussAreas over values alone: twice the area of any closed way is the document's, or refused. -/
import Derived.Test.YtgibokbkobcnaaaSGaussAreas
import Derived.Test.YtgibokbkobcnaaaYGaussAreaBase
namespace Go.Proofs.Ytgibokbkobcnaaa.G.gaussAreas
open Go.RowKit Go.Proofs.YtgibokbkobcnaaaW.PrintWords Go.Proofs.YtgibokbkobcnaaaW.PrintLast Go.Proofs.YtgibokbkobcnaaaW.PrintMore Go.Proofs.Ytgibokbkobcnaaa.G Go.Proofs.Ytgibokbkobcnaaa.G.Base
set_option linter.unusedSimpArgs false
theorem pure : calamuslaw10_GaussAreas.Pure := by
  intro l hl
  obtain ⟨_, hsz, _⟩ := hl
  refine ⟨l.length + 12, ?_⟩
  unfold calamuslaw10_GaussAreas.f
  rw [alive_yes, bs, if_pos rfl, bs, if_pos (by simp; omega), bs, List.nil_append]
  by_cases h : l.length ≤ 4096
  · cases hg : allg l
    · have hA : gauss_Area.f (l.length + 12) l = some (0, 6) := by
        unfold gauss_Area.f
        rw [if_neg (by omega), good_all l (by omega) _ (by omega), bs, hg, if_neg (by simp)]
      rw [hA, bs, same10_ok l (by omega) _ (by omega), bs, if_pos rfl, if_neg (by omega), ref_all l (by omega) _ (by omega), bs, hg, if_neg (by simp), if_pos rfl]
      rfl
    · rw [area_ok l h hg _ (by omega), bs, same10_ok l (by omega) _ (by omega), bs, if_pos rfl, if_neg (by omega), ref_all l (by omega) _ (by omega), bs, hg, if_pos rfl, if_pos rfl, ref_area l h hg _ (by omega), bs]
      simp
  · have hA : gauss_Area.f (l.length + 12) l = some (0, 7) := by
      unfold gauss_Area.f
      rw [if_pos (by omega)]
    rw [hA, bs, same10_ok l (by omega) _ (by omega), bs, if_pos rfl, if_pos (by omega), if_pos rfl]
    rfl
end Go.Proofs.Ytgibokbkobcnaaa.G.gaussAreas
