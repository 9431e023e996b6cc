/- The law GaussWays over values alone. -/
import Derived.Test.YtgibokbkobcnaaaSGaussWays
import Derived.Test.YtgibokbkobcnaaaYGaussChain
namespace Go.Proofs.Ytgibokbkobcnaaa.G.gaussWays
open Go.RowKit Go.Proofs.YtgibokbkobcnaaaW.PrintWords Go.Proofs.YtgibokbkobcnaaaW.PrintLast Go.Proofs.YtgibokbkobcnaaaW.PrintMore Go.Proofs.Ytgibokbkobcnaaa.G Go.Proofs.Ytgibokbkobcnaaa.G.Base
set_option linter.unusedVariables false
set_option linter.unusedSimpArgs false
abbrev Q2 := S44
theorem i32_bd {x : Int} (h : (Lit.int .i32 x).wf = true) : -2147483648 ≤ x ∧ x ≤ 2147483647 := by
  simp [Lit.wf, IntKind.min, IntKind.max, IntKind.bits, IntKind.signed] at h
  omega
theorem u8_bd {x : Int} (h : (Lit.int .u8 x).wf = true) : 0 ≤ x ∧ x ≤ 255 := by
  simp [Lit.wf, IntKind.min, IntKind.max, IntKind.bits, IntKind.signed] at h
  omega
def ok2 (p : Q2) : Prop := (-2147483648 ≤ p.f0 ∧ p.f0 ≤ 2147483647) ∧ (-2147483648 ≤ p.f1 ∧ p.f1 ≤ 2147483647)
def sm (p : Q2) : Pt := ⟨p.f0 / 2048, p.f1 / 2048⟩
def Sm (p : Pt) : Prop := (-1048576 ≤ p.f0 ∧ p.f0 ≤ 1048576) ∧ (-1048576 ≤ p.f1 ∧ p.f1 ≤ 1048576)
theorem sm_ok {p : Q2} (h : ok2 p) : Sm (sm p) := by
  unfold ok2 at h
  unfold Sm sm
  simp only
  omega
theorem small_ok {p : Q2} (h : ok2 p) : calamuslaw10_small.f p.f0 p.f1 = some ((sm p).f0, (sm p).f1) := by
  unfold ok2 at h
  unfold calamuslaw10_small.f sm
  rw [w_id (by omega) (by omega), w_id (by omega) (by omega)]
theorem more_ok {p d : Pt} (hp : Sm p) (hd : Sm d) : calamusref10_More.f p.f0 p.f1 d.f0 d.f1 = some ((mv d p).f0, (mv d p).f1) := by
  unfold Sm at *
  unfold calamusref10_More.f mv
  rw [w_id (by omega) (by omega), w_id (by omega) (by omega)]
theorem rd44 (l : List Q2) (i : Nat) (h : i < l.length) : rd_T44 l (i : Int) = l[i] := by
  show l.getD (i : Int).toNat _ = _
  rw [Int.toNat_natCast, List.getD_eq_getElem?_getD, List.getElem?_eq_getElem h]
  rfl
theorem el_turn (x0 : List Q2) (kk : Nat) (d : Pt) (hk : kk < x0.length) (i : Nat) (hi : i < x0.length) (hj : (i + kk) % x0.length < x0.length) :
    (((x0.map sm).drop kk ++ (x0.map sm).take kk).map (mv d))[i]? = some (mv d (sm (x0[(i + kk) % x0.length]'hj))) := by
  rw [List.getElem?_map]
  by_cases c : i < x0.length - kk
  · rw [List.getElem?_append_left (by simp; omega), List.getElem?_drop]
    have e : (i + kk) % x0.length = kk + i := by rw [Nat.mod_eq_of_lt (by omega)]; omega
    rw [List.getElem?_map, List.getElem?_eq_getElem (show kk + i < x0.length by omega)]
    simp only [Option.map_some, e]
  · have e : (i + kk) % x0.length = i - (x0.length - kk) := by rw [Nat.mod_eq_sub_mod (by omega), Nat.mod_eq_of_lt (by omega)]; omega
    rw [List.getElem?_append_right (by simp; omega), List.length_drop, List.length_map, List.getElem?_take_of_lt (by omega)]
    rw [List.getElem?_map, List.getElem?_eq_getElem (show i - (x0.length - kk) < x0.length by omega)]
    simp only [Option.map_some, e]
theorem take_more {α : Type} (l : List α) (i : Nat) (a : α) (h : l[i]? = some a) : l.take (i + 1) = l.take i ++ [a] := by
  rw [List.take_add_one, h]
  rfl
theorem el_back (x0 : List Q2) (i : Nat) (hi : i < x0.length) : (x0.map sm).reverse[i]? = some (sm (x0[x0.length - 1 - i]'(by omega))) := by
  rw [List.getElem?_reverse (by simpa using hi), List.length_map, List.getElem?_map, List.getElem?_eq_getElem (by omega)]
  rfl
theorem el_way (x0 : List Q2) (i : Nat) (hi : i < x0.length) : (x0.map sm)[i]? = some (sm x0[i]) := by
  rw [List.getElem?_map, List.getElem?_eq_getElem hi]
  rfl
theorem step (K : Nat) (x0 : List Q2) (kk : Nat) (d : Q2) (p q r : List Pt) (hk : kk < x0.length) (hn : x0.length ≤ 1000) (hx : ∀ p ∈ x0, ok2 p) (hd : ok2 d) (i : Nat) (hi : i < x0.length)
    (lp : p.length ≤ 1000) (lq : q.length ≤ 1000) (lr : r.length ≤ 1000) (hj : (i + kk) % x0.length < x0.length) (hm : x0.length - 1 - i < x0.length) :
    calamuslaw10_GaussWays.l0 (K + 1) x0 (kk : Int) p q r (x0.length : Int) (i : Int) d.f0 d.f1 =
      calamuslaw10_GaussWays.l0 K x0 (kk : Int) (p ++ [sm x0[i]]) (q ++ [mv (sm d) (sm (x0[(i + kk) % x0.length]'hj))]) (r ++ [sm (x0[x0.length - 1 - i]'hm)]) (x0.length : Int) ((i + 1 : Nat) : Int) d.f0 d.f1 := by
  have m1 := small_ok (hx _ (List.getElem_mem hi))
  have m2 := small_ok (hx _ (List.getElem_mem hj))
  have m3 := small_ok (hx _ (List.getElem_mem hm))
  have m4 := more_ok (sm_ok (hx _ (List.getElem_mem hj))) (sm_ok hd)
  have r1 := rd44 x0 i hi
  have r2 := rd44 x0 _ hj
  have r3 := rd44 x0 (x0.length - 1 - i) hm
  have w1 : wrap64 ((i : Int) + (kk : Int)) = ((i + kk : Nat) : Int) := by rw [w_id (by omega) (by omega)]; omega
  have w2 : Int.tmod ((i + kk : Nat) : Int) (x0.length : Int) = (((i + kk) % x0.length : Nat) : Int) := by rw [Int.tmod_eq_emod_of_nonneg (by omega)]; omega
  have w3 : wrap64 (wrap64 ((x0.length : Int) - 1) - (i : Int)) = ((x0.length - 1 - i : Nat) : Int) := by rw [w_id (x := (x0.length : Int) - 1) (by omega) (by omega), w_id (by omega) (by omega)]; omega
  have w4 : wrap64 ((i : Int) + 1) = ((i + 1 : Nat) : Int) := by rw [w_id (by omega) (by omega)]; omega
  have hs := small_ok hd
  generalize hN : (i + kk) % x0.length = jj at *
  generalize hM : x0.length - 1 - i = mm at *
  generalize x0[i] = u1 at *
  generalize x0[jj] = u2 at *
  generalize x0[mm] = u3 at *
  have c1 : (i : Int) < (x0.length : Int) := by omega
  have c2 : (0 : Int) ≤ (i : Int) := by omega
  have c3 : (0 : Int) ≤ (jj : Int) := by omega
  have c4 : (jj : Int) < (x0.length : Int) := by omega
  have c5 : (0 : Int) ≤ (mm : Int) := by omega
  have c6 : (mm : Int) < (x0.length : Int) := by omega
  have c7 : ¬ (x0.length : Int) = 0 := by omega
  clear hx hd hN hM
  rw [calamuslaw10_GaussWays.l0, if_pos c1, if_pos c2, if_pos c1, r1, m1, bs, bs, if_pos (by simp; omega), if_neg c7, w1, w2, if_pos c3, if_pos c4, r2, m2, bs, hs, bs, m4, bs, bs]
  rw [if_pos (by simp; omega), w3, if_pos c5, if_pos c6, r3, m3, bs, bs, if_pos (by simp; omega), w4]
theorem rounds (x0 : List Q2) (kk : Nat) (d : Q2) (K : Nat) (hk : kk < x0.length) (hn : x0.length ≤ 1000) (hx : ∀ p ∈ x0, ok2 p) (hd : ok2 d) : ∀ (m i : Nat), i + m = x0.length →
    calamuslaw10_GaussWays.l0 (m + K) x0 (kk : Int) ((x0.map sm).take i) ((((x0.map sm).drop kk ++ (x0.map sm).take kk).map (mv (sm d))).take i) ((x0.map sm).reverse.take i) (x0.length : Int) (i : Int) d.f0 d.f1 =
      calamuslaw10_GaussWays.l0 K x0 (kk : Int) (x0.map sm) (((x0.map sm).drop kk ++ (x0.map sm).take kk).map (mv (sm d))) (x0.map sm).reverse (x0.length : Int) (x0.length : Int) d.f0 d.f1
  | 0, i, h => by
    obtain rfl : i = x0.length := by omega
    have t1 : (x0.map sm).take x0.length = x0.map sm := List.take_of_length_le (by simp)
    have t2 : (((x0.map sm).drop kk ++ (x0.map sm).take kk).map (mv (sm d))).take x0.length = ((x0.map sm).drop kk ++ (x0.map sm).take kk).map (mv (sm d)) := List.take_of_length_le (by simp; omega)
    have t3 : (x0.map sm).reverse.take x0.length = (x0.map sm).reverse := List.take_of_length_le (by simp)
    rw [Nat.zero_add, t1, t2, t3]
  | m + 1, i, h => by
    have ih := rounds x0 kk d K hk hn hx hd m (i + 1) (by omega)
    have hi : i < x0.length := by omega
    have hj : (i + kk) % x0.length < x0.length := Nat.mod_lt _ (by omega)
    rw [show m + 1 + K = (m + K) + 1 by omega, step (m + K) x0 kk d _ _ _ hk hn hx hd i hi (by simp; omega) (by simp; omega) (by simp; omega) hj (by omega)]
    rw [← take_more _ i _ (el_way x0 i hi), ← take_more _ i _ (el_turn x0 kk (sm d) hk i hi hj), ← take_more _ i _ (el_back x0 i hi)]
    exact ih
theorem allg_of {l : List Pt} (h : ∀ p ∈ l, Bd p.f0 ∧ Bd p.f1) : allg l = true := by
  unfold allg
  rw [List.all_eq_true]
  intro p hp
  exact gauss_Cross.gd_iff.2 ⟨(h p hp).1.1, (h p hp).1.2, (h p hp).2.1, (h p hp).2.2⟩
theorem sum_bd (f : Nat → Int) : ∀ n : Nat, (∀ i, i < n → -35184372088832 ≤ f i ∧ f i ≤ 35184372088832) → -35184372088832 * (n : Int) ≤ sumN f n ∧ sumN f n ≤ 35184372088832 * (n : Int)
  | 0, _ => by simp [sumN]
  | n + 1, h => by
    have ih := sum_bd f n (fun i hi => h i (by omega))
    have := h n (by omega)
    rw [sumN]
    omega
theorem ar_bd (l : List Pt) (hl : l.length ≤ 2000) (h : ∀ p ∈ l, Bd p.f0 ∧ Bd p.f1) : -70368744177664000 ≤ ar l ∧ ar l ≤ 70368744177664000 := by
  have := sum_bd (fun i => cr (gt l i) (gt l ((i + 1) % l.length))) l.length (fun i hi => by
    have b1 := h _ (gt_mem l i hi)
    have b2 := h _ (gt_mem l ((i + 1) % l.length) (Nat.mod_lt _ (by omega)))
    have m1 := mul_bd b1.1 b2.2
    have m2 := mul_bd b1.2 b2.1
    show -35184372088832 ≤ cr _ _ ∧ cr _ _ ≤ 35184372088832
    unfold cr
    omega)
  unfold ar
  omega
theorem len_turn (P : List Pt) (kk : Nat) (h : kk < P.length) (f : Pt → Pt) : ((P.drop kk ++ P.take kk).map f).length = P.length := by
  simp
  omega
theorem len_part (P : List Pt) (kk : Nat) (h : P.length ≤ 1000) (h0 : Pt) : (P.drop kk ++ [h0]).length ≤ 1001 := by
  simp
  omega
theorem last (K : Nat) (x0 : List Q2) (kk : Nat) (d : Q2) (hk : kk < x0.length) (hn : x0.length ≤ 1000) (hx : ∀ p ∈ x0, ok2 p) (hd : ok2 d) (hK : 1010 ≤ K) :
    calamuslaw10_GaussWays.l0 (K + 1) x0 (kk : Int) (x0.map sm) (((x0.map sm).drop kk ++ (x0.map sm).take kk).map (mv (sm d))) (x0.map sm).reverse (x0.length : Int) (x0.length : Int) d.f0 d.f1 = some true := by
  have hb : ∀ p ∈ x0.map sm, Sm p := by
    intro p hp
    obtain ⟨q, hq, rfl⟩ := List.mem_map.1 hp
    exact sm_ok (hx q hq)
  have hdd := sm_ok hd
  have lP : (x0.map sm).length = x0.length := List.length_map ..
  generalize x0.map sm = P at *
  have bP : ∀ p ∈ P, Bd p.f0 ∧ Bd p.f1 := fun p hp => by have := hb p hp; unfold Sm at this; unfold Bd; omega
  have bQ : ∀ p ∈ (P.drop kk ++ P.take kk).map (mv (sm d)), Bd p.f0 ∧ Bd p.f1 := by
    intro p hp
    obtain ⟨q, hq, rfl⟩ := List.mem_map.1 hp
    have hq2 : q ∈ P := by
      rcases List.mem_append.1 hq with h | h
      · exact List.mem_of_mem_drop h
      · exact List.mem_of_mem_take h
    have := hb q hq2
    unfold Sm at *
    unfold Bd mv
    simp only
    omega
  have bR : ∀ p ∈ P.reverse, Bd p.f0 ∧ Bd p.f1 := fun p hp => bP p (List.mem_reverse.1 hp)
  have bT : ∀ p ∈ P.take (kk + 1), Bd p.f0 ∧ Bd p.f1 := fun p hp => bP p (List.mem_of_mem_take hp)
  obtain ⟨h0, t0, e0⟩ : ∃ h t, P = h :: t := by
    cases hP : P with
    | nil => rw [hP] at lP; simp at lP; omega
    | cons h t => exact ⟨h, t, rfl⟩
  have bU : ∀ p ∈ P.drop kk ++ [h0], Bd p.f0 ∧ Bd p.f1 := by
    intro p hp
    rcases List.mem_append.1 hp with h | h
    · exact bP p (List.mem_of_mem_drop h)
    · rw [List.mem_singleton.1 h]
      exact bP h0 (by rw [e0]; simp)
  have a1 : ar ((P.drop kk ++ P.take kk).map (mv (sm d))) = ar P := by
    rw [ar_loop, ar_loop, loop_mv]
    have hs : P = P.take kk ++ P.drop kk := (List.take_append_drop kk P).symm
    cases c1 : P.take kk with
    | nil => rw [c1] at hs; rw [List.append_nil]; rw [List.nil_append] at hs; rw [← hs]
    | cons x l =>
      cases c2 : P.drop kk with
      | nil => rw [c2, c1] at hs; rw [List.append_nil] at hs; rw [List.nil_append, ← hs]
      | cons y m => rw [loop_turn y m x l, ← c1, ← c2, List.take_append_drop]
  have a2 : ar P.reverse = - ar P := by rw [ar_loop, ar_loop, loop_back]
  have a3 : ar P = ar (P.take (kk + 1)) + ar (P.drop kk ++ [h0]) := by
    rw [ar_loop, ar_loop, ar_loop]
    have c1 : P.take (kk + 1) = P.take kk ++ [P[kk]'(by omega)] := List.take_succ_eq_append_getElem (by omega)
    have c2 : P.drop kk = P[kk]'(by omega) :: P.drop (kk + 1) := List.drop_eq_getElem_cons (by omega)
    have c3 : P.take (kk + 1) = h0 :: t0.take kk := by rw [e0]; rfl
    have c4 : P = P.take kk ++ P[kk]'(by omega) :: P.drop (kk + 1) := by rw [← c2, List.take_append_drop]
    have c5 := loop_parts (P.take kk) (P[kk]'(by omega)) (P.drop (kk + 1)) h0 (t0.take kk) (by rw [← c1, c3])
    rw [← c4] at c5
    rw [c5, c1, c2]
  have n2 : wrap64 (ar P) = ar P := by
    have b0 := ar_bd P (by omega) bP
    clear a1 a2 a3
    generalize ar P = z at b0
    exact w_id (by omega) (by omega)
  have n1 : wrap64 (- - ar P) = ar P := by rw [Int.neg_neg]; exact n2
  have B1 := Aside0.mk a1
  have B2 := Aside0.mk a2
  have B3 := Aside0.mk a3
  have N1 := Aside0.mk n1
  have N2 := Aside0.mk n2
  clear a1 a2 a3 n1 n2
  have wk : wrap64 ((kk : Int) + 1) = ((kk + 1 : Nat) : Int) := by rw [w_id (by omega) (by omega)]; omega
  have r0 : rd_T23 P 0 = h0 := by rw [e0]; rfl
  have lQ := len_turn P kk (by omega) (mv (sm d))
  have lU := len_part P kk (by omega) h0
  have lT : (P.take (kk + 1)).length ≤ 1000 := by rw [List.length_take]; omega
  have lR : P.reverse.length = P.length := List.length_reverse
  have lD : (P.drop kk).length ≤ 1000 := by rw [List.length_drop]; omega
  have E0 := Aside0.mk e0
  clear e0
  have A1 := area_ok P (by omega) (allg_of bP) K (by omega)
  have A2 := area_ok _ (by omega) (allg_of bQ) K (by omega)
  have A3 := area_ok P.reverse (by omega) (allg_of bR) K (by omega)
  have A4 := area_ok (P.take (kk + 1)) (by omega) (allg_of bT) K (by omega)
  have A5 := area_ok (P.drop kk ++ [h0]) (by omega) (allg_of bU) K (by omega)
  have c1 : ¬ (x0.length : Int) < (x0.length : Int) := by omega
  have c2 : (0 : Int) ≤ ((kk + 1 : Nat) : Int) := by omega
  have c3 : ((kk + 1 : Nat) : Int) ≤ (P.length : Int) := by omega
  have c4 : (0 : Int) ≤ (kk : Int) := by omega
  have c5 : (kk : Int) ≤ (P.length : Int) := by omega
  have c6 : ([] : List Pt).length + (P.drop kk).length < 8796093022208 := by simp; omega
  have c7 : (0 : Int) < (P.length : Int) := by omega
  have c8 : ([] ++ P.drop kk).length + [h0].length < 8796093022208 := by simp; omega
  rw [calamuslaw10_GaussWays.l0, if_neg c1, A1, bs, A2, bs, A3, bs, wk, if_pos c2, if_pos c3, Int.toNat_natCast, A4, bs, bs, if_pos c4, if_pos c5, Int.toNat_natCast, bs]
  rw [if_pos c6, bs, if_pos c7, bs, r0, if_pos c8, List.nil_append, A5, bs]
  rw [if_pos rfl, if_pos rfl, if_pos rfl, if_pos rfl, if_pos rfl, B1.out, if_pos rfl, B2.out, N1.out, if_pos rfl, ← B3.out, N2.out]
  simp
theorem pure : calamuslaw10_GaussWays.Pure := by
  intro x0 d n hx hd hn
  have hd2 : ok2 d := ⟨i32_bd hd.1, i32_bd hd.2⟩
  have hx2 : ∀ p ∈ x0, ok2 p := fun p hp => ⟨i32_bd (hx.2.2 p hp).1, i32_bd (hx.2.2 p hp).2⟩
  have hn := u8_bd hn
  by_cases h : 3 ≤ x0.length ∧ x0.length ≤ 1000
  · refine ⟨(x0.length + (1010 + 1)) + 1, ?_⟩
    unfold calamuslaw10_GaussWays.f
    have ha : calamuslaw10_alive.f ((x0.length + (1010 + 1)) + 1) = some true := by
      rw [show (x0.length + (1010 + 1)) + 1 = (x0.length + 1000) + 12 by omega]
      exact alive_yes _
    have hw : wrap64 n = n := w_id (by omega) (by omega)
    have ht : Int.tmod n (x0.length : Int) = ((n.toNat % x0.length : Nat) : Int) := by
      rw [Int.tmod_eq_emod_of_nonneg hn.1]
      have e : n = ((n.toNat : Nat) : Int) := by omega
      exact (congrArg (fun z : Int => z % (x0.length : Int)) e).trans (Int.natCast_emod n.toNat x0.length).symm
    have hk : n.toNat % x0.length < x0.length := Nat.mod_lt _ (by omega)
    have r := rounds x0 (n.toNat % x0.length) d (1010 + 1) hk h.2 hx2 hd2 x0.length 0 (by omega)
    rw [List.take_zero, List.take_zero, List.take_zero] at r
    rw [ha, bs, if_pos rfl, if_neg (by omega), decide_eq_false (by omega), calamuslaw10_GaussWays.j0, if_neg (by decide), if_neg (by omega), hw, ht]
    exact r.trans (last 1010 x0 _ d hk h.2 hx2 hd2 (by omega))
  · refine ⟨0 + 12, ?_⟩
    unfold calamuslaw10_GaussWays.f
    rw [alive_yes 0, bs, if_pos rfl]
    by_cases h1 : (x0.length : Int) < 3
    · rw [if_pos h1, calamuslaw10_GaussWays.j0, if_pos rfl]
    · rw [if_neg h1, decide_eq_true (by omega), calamuslaw10_GaussWays.j0, if_pos rfl]
end Go.Proofs.Ytgibokbkobcnaaa.G.gaussWays
