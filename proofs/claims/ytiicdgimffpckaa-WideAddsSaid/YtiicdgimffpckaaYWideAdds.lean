/- The law WideAdds over values alone. -/
import Derived.Test.YtiicdgimffpckaaSWideAdds
import Derived.Test.YtiicdgimffpckaaYWideRefBase
namespace Go.Proofs.Ytiicdgimffpckaa.W.wideAdds
open Go.RowKit Go.Proofs.YtiicdgimffpckaaW.PrintWords Go.Proofs.YtiicdgimffpckaaW.PrintLast Go.Proofs.YtiicdgimffpckaaW.PrintMore Go.Proofs.Ytiicdgimffpckaa.W Go.Proofs.Ytiicdgimffpckaa.W.Base
set_option linter.unusedVariables false
set_option linter.unusedSimpArgs false
theorem pure : calamuslaw01_WideAdds.Pure := by
  intro x y hx hy
  obtain ⟨a, b⟩ := x
  obtain ⟨c, d⟩ := y
  have ha := i64_bd hx.1
  have hb := u64_bd hx.2
  have hc := i64_bd hy.1
  have hd := u64_bd hy.2
  simp only at ha hb hc hd
  refine ⟨0 + 80, ?_⟩
  show calamuslaw01_WideAdds.f (0 + 80) a b c d = some true
  obtain ⟨ra, ea, hra⟩ := ref_D (h := a) hb
  obtain ⟨rc, ec, hrc⟩ := ref_D (h := c) hd
  obtain ⟨s, es, hs⟩ := Add_D hra hrc
  obtain ⟨t, et, ht⟩ := Sub_D hra hrc
  obtain ⟨n, en, hn⟩ := Neg_D hra
  have v1 : (wv a b + wv c d) % 340282366920938463463374607431768211456 = wv (wrap64 (a + c + (b + d) / 18446744073709551616)) ((b + d) % 18446744073709551616) := by unfold wv wrap64; omega
  have v2 : (wv a b - wv c d) % 340282366920938463463374607431768211456 = wv (wrap64 (a - c + (b - d) / 18446744073709551616)) ((b - d) % 18446744073709551616) := by unfold wv wrap64; omega
  have v3 : (- wv a b) % 340282366920938463463374607431768211456 = wv (wrap64 (- a + (- b) / 18446744073709551616)) ((- b) % 18446744073709551616) := by unfold wv wrap64; omega
  rw [v1] at hs
  rw [v2] at ht
  rw [v3] at hn
  unfold calamuslaw01_WideAdds.f
  rw [alive_yes 0, bs, if_pos rfl]
  unfold calamuslaw01_Two_own.f
  rw [bs, bs, Add_ok hb hd, bs, ea, bs, ec, bs, es, bs, is_yes (md _) hs, bs, if_pos rfl]
  rw [Sub_ok hb hd, bs, bs, bs, et, bs, is_yes (md _) ht, bs, if_pos rfl]
  rw [Neg_ok hb, bs, bs, en, bs, is_yes (md _) hn, bs, if_pos rfl]
  rw [Cmp_ok 79, bs, bs, bs, Cmp_D hra hrc, bs]
  have sa : sv (wv a b) = a * 18446744073709551616 + b := by unfold sv wv; split <;> omega
  have sc : sv (wv c d) = c * 18446744073709551616 + d := by unfold sv wv; split <;> omega
  have s0 : sv 0 = 0 := by decide
  have w1 : cmp a b c d = scmp (wv a b) (wv c d) := by unfold cmp scmp; rw [sa, sc]; omega
  rw [if_pos w1]
  unfold wide_Sign.f
  rw [Cmp_ok 79, bs, bs, bs, Sign_D hra, bs]
  have w2 : cmp a b 0 0 = scmp (wv a b) 0 := by unfold cmp scmp; rw [sa, s0]; omega
  rw [w2]
  simp
end Go.Proofs.Ytiicdgimffpckaa.W.wideAdds
