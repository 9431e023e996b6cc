/- The law GaussProducts over values alone: which points are good, and their products, are the document's, or refused. -/
import Derived.Test.YtgibokbkobcnaaaSGaussProducts
import Derived.Test.YtgibokbkobcnaaaYGaussBase
namespace Go.Proofs.Ytgibokbkobcnaaa.G.gaussProducts
open Go.RowKit Go.Proofs.YtgibokbkobcnaaaW.PrintWords Go.Proofs.YtgibokbkobcnaaaW.PrintLast Go.Proofs.YtgibokbkobcnaaaW.PrintMore Go.Proofs.Ytgibokbkobcnaaa.G Go.Proofs.Ytgibokbkobcnaaa.G.Base
set_option linter.unusedSimpArgs false
theorem pure : calamuslaw10_GaussProducts.Pure := by
  intro x y _ _
  obtain ⟨a, b⟩ := x
  obtain ⟨c, d⟩ := y
  refine ⟨14, ?_⟩
  unfold calamuslaw10_GaussProducts.f
  rw [alive_yes 2, bs, if_pos rfl]
  simp only [ref_gd, bs]
  have key : calamuslaw10_GaussProducts.j0 14 (gauss_Cross.gd a b && gauss_Cross.gd c d) a b c d = some true := by
    simp only [calamuslaw10_GaussProducts.j0]
    unfold gauss_Cross.f gauss_Dot.f gauss_Times.f
    rw [gauss_Cross.good2 10, gauss_Cross.good1 11, ref_gd, good0 12]
    cases hg : (gauss_Cross.gd a b && gauss_Cross.gd c d)
    · simp only [Bool.false_eq_true, if_false, bs, bne_self_eq_false, Bool.not_true, calamuslaw10_GaussProducts.j1, if_true]
      rfl
    · have hgg := Bool.and_eq_true_iff.1 hg
      obtain ⟨ha, hb⟩ := bd_of hgg.1
      obtain ⟨hc, hd⟩ := bd_of hgg.2
      simp only [if_true, bs, bne_self_eq_false, Bool.false_eq_true, if_false, Bool.not_true, calamuslaw10_GaussProducts.j1, ref_cross ha hb hc hd, ref_dot ha hb hc hd, w_neg hb, ref_cross ha (bd_neg hb) hc hd, ref_dot ha (bd_neg hb) hc hd]
      congr 1
      simp only [Bool.and_eq_true, beq_iff_eq]
      rw [Int.neg_mul, Int.neg_mul]
      omega
  cases h1 : gauss_Cross.gd a b
  · rw [h1] at key
    rw [if_neg (by simp)]
    exact key
  · rw [h1] at key
    rw [if_pos rfl]
    exact key
end Go.Proofs.Ytgibokbkobcnaaa.G.gaussProducts
