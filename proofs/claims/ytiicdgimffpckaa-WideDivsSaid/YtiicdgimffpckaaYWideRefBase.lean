/- The document's numbers (calamusref01): eight digits to the base 65536; what each of its functions answers, as a whole number modulo 2^128. -/
import Derived.Test.YtiicdgimffpckaaYWideMulBase
namespace Go.Proofs.Ytiicdgimffpckaa.W.Base
open Go.RowKit Go.Proofs.YtiicdgimffpckaaW.PrintWords Go.Proofs.YtiicdgimffpckaaW.PrintLast Go.Proofs.YtiicdgimffpckaaW.PrintMore Go.Proofs.Ytiicdgimffpckaa.W
set_option linter.unusedVariables false
set_option linter.unusedSimpArgs false
abbrev T8 := Int × Int × Int × Int × Int × Int × Int × Int
/-- Digits that make a number. -/
structure D (V : Int) (t : T8) : Prop where
  b0 : 0 ≤ t.1 ∧ t.1 < 65536
  b1 : 0 ≤ t.2.1 ∧ t.2.1 < 65536
  b2 : 0 ≤ t.2.2.1 ∧ t.2.2.1 < 65536
  b3 : 0 ≤ t.2.2.2.1 ∧ t.2.2.2.1 < 65536
  b4 : 0 ≤ t.2.2.2.2.1 ∧ t.2.2.2.2.1 < 65536
  b5 : 0 ≤ t.2.2.2.2.2.1 ∧ t.2.2.2.2.2.1 < 65536
  b6 : 0 ≤ t.2.2.2.2.2.2.1 ∧ t.2.2.2.2.2.2.1 < 65536
  b7 : 0 ≤ t.2.2.2.2.2.2.2 ∧ t.2.2.2.2.2.2.2 < 65536
  v : V = t.1 + 65536 * t.2.1 + 4294967296 * t.2.2.1 + 281474976710656 * t.2.2.2.1 + 18446744073709551616 * t.2.2.2.2.1 + 1208925819614629174706176 * t.2.2.2.2.2.1 + 79228162514264337593543950336 * t.2.2.2.2.2.2.1 + 5192296858534827628530496329220096 * t.2.2.2.2.2.2.2
theorem D.range {V : Int} {t : T8} (h : D V t) : 0 ≤ V ∧ V < 340282366920938463463374607431768211456 := by
  obtain ⟨b0, b1, b2, b3, b4, b5, b6, b7, v⟩ := h
  omega
theorem D.only {V : Int} {t s : T8} (h : D V t) (g : D V s) : t = s := by
  obtain ⟨t0, t1, t2, t3, t4, t5, t6, t7⟩ := t
  obtain ⟨s0, s1, s2, s3, s4, s5, s6, s7⟩ := s
  obtain ⟨b0, b1, b2, b3, b4, b5, b6, b7, v⟩ := h
  obtain ⟨c0, c1, c2, c3, c4, c5, c6, c7, u⟩ := g
  simp only at b0 b1 b2 b3 b4 b5 b6 b7 v c0 c1 c2 c3 c4 c5 c6 c7 u
  obtain rfl : t0 = s0 := by omega
  obtain rfl : t1 = s1 := by omega
  obtain rfl : t2 = s2 := by omega
  obtain rfl : t3 = s3 := by omega
  obtain rfl : t4 = s4 := by omega
  obtain rfl : t5 = s5 := by omega
  obtain rfl : t6 = s6 := by omega
  obtain rfl : t7 = s7 := by omega
  rfl
/-- The number of two halves. -/
def wv (h l : Int) : Int := h % 18446744073709551616 * 18446744073709551616 + l
theorem tm {x : Int} (h : 0 ≤ x ∧ x < 18446744073709551616) : Int.tmod x 65536 % 4294967296 = x % 65536 := by
  rw [Int.tmod_eq_emod_of_nonneg h.1]
  omega
theorem td {x : Int} (h : 0 ≤ x ∧ x < 18446744073709551616) : IntKind.u64.wrap (Int.tdiv x 65536) = x / 65536 := by
  rw [u_w, Int.tdiv_eq_ediv_of_nonneg h.1]
  omega
theorem Of_D {h l : Int} (hl : 0 ≤ l ∧ l < 18446744073709551616) : ∃ r, calamusref01_Of.f h l = some r ∧ D (wv h l) r := by
  unfold calamusref01_Of.f
  have hm := md h
  rw [u_w h]
  unfold wv
  generalize h % 18446744073709551616 = g at *
  have q1 : 0 ≤ l / 65536 ∧ l / 65536 < 18446744073709551616 := by omega
  have q2 : 0 ≤ l / 65536 / 65536 ∧ l / 65536 / 65536 < 18446744073709551616 := by omega
  have q3 : 0 ≤ l / 65536 / 65536 / 65536 ∧ l / 65536 / 65536 / 65536 < 18446744073709551616 := by omega
  have p1 : 0 ≤ g / 65536 ∧ g / 65536 < 18446744073709551616 := by omega
  have p2 : 0 ≤ g / 65536 / 65536 ∧ g / 65536 / 65536 < 18446744073709551616 := by omega
  have p3 : 0 ≤ g / 65536 / 65536 / 65536 ∧ g / 65536 / 65536 / 65536 < 18446744073709551616 := by omega
  rw [td hl, td hm, td q1, td p1, td q2, td p2, tm hl, tm hm, tm q1, tm p1, tm q2, tm p2, tm q3, tm p3]
  refine ⟨_, rfl, ⟨?_, ?_, ?_, ?_, ?_, ?_, ?_, ?_, ?_⟩⟩ <;> (simp only; omega)
theorem is_yes {h l : Int} {r : T8} (hl : 0 ≤ l ∧ l < 18446744073709551616) (hr : D (wv h l) r) : calamuslaw01_is.f h l r.1 r.2.1 r.2.2.1 r.2.2.2.1 r.2.2.2.2.1 r.2.2.2.2.2.1 r.2.2.2.2.2.2.1 r.2.2.2.2.2.2.2 = some true := by
  obtain ⟨s, e, hs⟩ := Of_D (h := h) hl
  obtain rfl := hs.only hr
  unfold calamuslaw01_is.f
  rw [e, bs, if_pos rfl, if_pos rfl, if_pos rfl, if_pos rfl, if_pos rfl, if_pos rfl, if_pos rfl, if_pos rfl]
theorem ref_D {h l : Int} (hl : 0 ≤ l ∧ l < 18446744073709551616) : ∃ r, calamuslaw01_Two_ref.f h l = some r ∧ D (wv h l) r := by
  obtain ⟨s, e, hs⟩ := Of_D (h := h) hl
  exact ⟨s, by unfold calamuslaw01_Two_ref.f; rw [e, bs], hs⟩
theorem Small_D {a : Int} (h : -9223372036854775808 ≤ a ∧ a < 9223372036854775808) : ∃ r, calamusref01_Small.f a = some r ∧ D (a % 340282366920938463463374607431768211456) r := by
  unfold calamusref01_Small.f
  rw [u_w]
  by_cases h0 : a < 0
  · rw [if_pos h0]
    obtain ⟨s, e, hs⟩ := Of_D (h := -1) (md a)
    refine ⟨s, by rw [e, bs], ?_⟩
    have : wv (-1) (a % 18446744073709551616) = a % 340282366920938463463374607431768211456 := by unfold wv; omega
    rwa [this] at hs
  · rw [if_neg h0]
    obtain ⟨s, e, hs⟩ := Of_D (h := 0) (md a)
    refine ⟨s, by rw [e, bs], ?_⟩
    have : wv 0 (a % 18446744073709551616) = a % 340282366920938463463374607431768211456 := by unfold wv; omega
    rwa [this] at hs
theorem add_step {a b c : Int} (ha : 0 ≤ a ∧ a < 65536) (hb : 0 ≤ b ∧ b < 65536) (hc : 0 ≤ c ∧ c ≤ 1) :
    ∃ n d : Int, (a + b + c) % 65536 = n ∧ (a + b + c) % 4294967296 / 65536 = d ∧ 0 ≤ n ∧ n < 65536 ∧ 0 ≤ d ∧ d ≤ 1 ∧ n + 65536 * d = a + b + c := ⟨_, _, rfl, rfl, by omega, by omega, by omega, by omega, by omega⟩
theorem Add_D {A B : Int} {a b : T8} (ha : D A a) (hb : D B b) :
    ∃ r, calamusref01_Add.f a.1 a.2.1 a.2.2.1 a.2.2.2.1 a.2.2.2.2.1 a.2.2.2.2.2.1 a.2.2.2.2.2.2.1 a.2.2.2.2.2.2.2 b.1 b.2.1 b.2.2.1 b.2.2.2.1 b.2.2.2.2.1 b.2.2.2.2.2.1 b.2.2.2.2.2.2.1 b.2.2.2.2.2.2.2 = some r ∧ D ((A + B) % 340282366920938463463374607431768211456) r := by
  obtain ⟨a0, a1, a2, a3, a4, a5, a6, a7⟩ := a
  obtain ⟨b0, b1, b2, b3, b4, b5, b6, b7⟩ := b
  obtain ⟨p0, p1, p2, p3, p4, p5, p6, p7, v⟩ := ha
  obtain ⟨q0, q1, q2, q3, q4, q5, q6, q7, u⟩ := hb
  simp only at p0 p1 p2 p3 p4 p5 p6 p7 v q0 q1 q2 q3 q4 q5 q6 q7 u
  unfold calamusref01_Add.f
  simp only [calamusref01_Add.st, List.getD_cons_zero, List.getD_cons_succ, List.set_cons_zero, List.set_cons_succ]
  obtain ⟨n0, c1, e, f, h1, h2, h3, h4, g0⟩ := add_step p0 q0 (c := 0) (by omega)
  rw [e, f]
  obtain ⟨n1, c2, e, f, i1, i2, i3, i4, g1⟩ := add_step p1 q1 ⟨h3, h4⟩
  rw [e, f]
  obtain ⟨n2, c3, e, f, j1, j2, j3, j4, g2⟩ := add_step p2 q2 ⟨i3, i4⟩
  rw [e, f]
  obtain ⟨n3, c4, e, f, k1, k2, k3, k4, g3⟩ := add_step p3 q3 ⟨j3, j4⟩
  rw [e, f]
  obtain ⟨n4, c5, e, f, l1, l2, l3, l4, g4⟩ := add_step p4 q4 ⟨k3, k4⟩
  rw [e, f]
  obtain ⟨n5, c6, e, f, m1, m2, m3, m4, g5⟩ := add_step p5 q5 ⟨l3, l4⟩
  rw [e, f]
  obtain ⟨n6, c7, e, f, o1, o2, o3, o4, g6⟩ := add_step p6 q6 ⟨m3, m4⟩
  rw [e, f]
  obtain ⟨n7, c8, e, f, r1, r2, r3, r4, g7⟩ := add_step p7 q7 ⟨o3, o4⟩
  rw [e]
  refine ⟨(n0, n1, n2, n3, n4, n5, n6, n7), rfl, ⟨⟨h1, h2⟩, ⟨i1, i2⟩, ⟨j1, j2⟩, ⟨k1, k2⟩, ⟨l1, l2⟩, ⟨m1, m2⟩, ⟨o1, o2⟩, ⟨r1, r2⟩, ?_⟩⟩
  simp only
  clear e f
  have hs : A + B = (n0 + 65536 * n1 + 4294967296 * n2 + 281474976710656 * n3 + 18446744073709551616 * n4 + 1208925819614629174706176 * n5 + 79228162514264337593543950336 * n6 + 5192296858534827628530496329220096 * n7) + 340282366920938463463374607431768211456 * c8 := by
    clear h1 h2 h3 h4 i1 i2 i3 i4 j1 j2 j3 j4 k1 k2 k3 k4 l1 l2 l3 l4 m1 m2 m3 m4 o1 o2 o3 o4 r1 r2 r3 r4 p0 p1 p2 p3 p4 p5 p6 p7 q0 q1 q2 q3 q4 q5 q6 q7
    omega
  have hr1 : 0 ≤ n0 + 65536 * n1 + 4294967296 * n2 + 281474976710656 * n3 + 18446744073709551616 * n4 + 1208925819614629174706176 * n5 + 79228162514264337593543950336 * n6 + 5192296858534827628530496329220096 * n7 := by omega
  have hr2 : n0 + 65536 * n1 + 4294967296 * n2 + 281474976710656 * n3 + 18446744073709551616 * n4 + 1208925819614629174706176 * n5 + 79228162514264337593543950336 * n6 + 5192296858534827628530496329220096 * n7 < 340282366920938463463374607431768211456 := by omega
  rw [hs]
  generalize n0 + 65536 * n1 + 4294967296 * n2 + 281474976710656 * n3 + 18446744073709551616 * n4 + 1208925819614629174706176 * n5 + 79228162514264337593543950336 * n6 + 5192296858534827628530496329220096 * n7 = W at *
  clear g0 g1 g2 g3 g4 g5 g6 g7 v u hs
  omega
theorem one_D : D 1 (1, 0, 0, 0, 0, 0, 0, 0) := ⟨by decide, by decide, by decide, by decide, by decide, by decide, by decide, by decide, by decide⟩
theorem nil_D : D 0 (0, 0, 0, 0, 0, 0, 0, 0) := ⟨by decide, by decide, by decide, by decide, by decide, by decide, by decide, by decide, by decide⟩
theorem Neg_D {A : Int} {a : T8} (ha : D A a) :
    ∃ r, calamusref01_Neg.f a.1 a.2.1 a.2.2.1 a.2.2.2.1 a.2.2.2.2.1 a.2.2.2.2.2.1 a.2.2.2.2.2.2.1 a.2.2.2.2.2.2.2 = some r ∧ D ((- A) % 340282366920938463463374607431768211456) r := by
  obtain ⟨a0, a1, a2, a3, a4, a5, a6, a7⟩ := a
  obtain ⟨p0, p1, p2, p3, p4, p5, p6, p7, v⟩ := ha
  simp only at p0 p1 p2 p3 p4 p5 p6 p7 v
  unfold calamusref01_Neg.f
  have hm : ∀ {x : Int}, 0 ≤ x ∧ x < 65536 → (65535 - x) % 4294967296 = 65535 - x := fun h => by omega
  simp only [hm p0, hm p1, hm p2, hm p3, hm p4, hm p5, hm p6, hm p7]
  have hd : D (340282366920938463463374607431768211455 - A) (65535 - a0, 65535 - a1, 65535 - a2, 65535 - a3, 65535 - a4, 65535 - a5, 65535 - a6, 65535 - a7) := by
    refine ⟨?_, ?_, ?_, ?_, ?_, ?_, ?_, ?_, ?_⟩ <;> (simp only; omega)
  obtain ⟨r, e, hr⟩ := Add_D hd one_D
  simp only at e
  refine ⟨r, by rw [e, bs], ?_⟩
  have : (340282366920938463463374607431768211455 - A + 1) % 340282366920938463463374607431768211456 = (- A) % 340282366920938463463374607431768211456 := by
    clear hr e hd hm v p0 p1 p2 p3 p4 p5 p6 p7
    omega
  rwa [this] at hr
theorem Sub_D {A B : Int} {a b : T8} (ha : D A a) (hb : D B b) :
    ∃ r, calamusref01_Sub.f a.1 a.2.1 a.2.2.1 a.2.2.2.1 a.2.2.2.2.1 a.2.2.2.2.2.1 a.2.2.2.2.2.2.1 a.2.2.2.2.2.2.2 b.1 b.2.1 b.2.2.1 b.2.2.2.1 b.2.2.2.2.1 b.2.2.2.2.2.1 b.2.2.2.2.2.2.1 b.2.2.2.2.2.2.2 = some r ∧ D ((A - B) % 340282366920938463463374607431768211456) r := by
  obtain ⟨n, e, hn⟩ := Neg_D hb
  obtain ⟨r, f, hr⟩ := Add_D ha hn
  unfold calamusref01_Sub.f
  refine ⟨r, by rw [e, bs, f, bs], ?_⟩
  have : (A + (- B) % 340282366920938463463374607431768211456) % 340282366920938463463374607431768211456 = (A - B) % 340282366920938463463374607431768211456 := by
    clear hr e f hn ha hb
    omega
  rwa [this] at hr
/-- The number as it is signed. -/
def sv (A : Int) : Int := if A ≥ 170141183460469231731687303715884105728 then A - 340282366920938463463374607431768211456 else A
def scmp (A B : Int) : Int := if sv A > sv B then 1 else if sv A < sv B then -1 else 0
theorem go_step {a b X r : Int} (h1 : a > b → r = 1) (h2 : a < b → r = -1) (h3 : a = b → X = r) : (if a > b then 1 else if a < b then -1 else X) = r := by
  by_cases c1 : a > b
  · rw [if_pos c1, h1 c1]
  · by_cases c2 : a < b
    · rw [if_neg c1, if_pos c2, h2 c2]
    · rw [if_neg c1, if_neg c2, h3 (by omega)]
set_option maxHeartbeats 8000000 in
theorem Cmp_D {A B : Int} {a b : T8} (ha : D A a) (hb : D B b) :
    calamusref01_Cmp.f a.1 a.2.1 a.2.2.1 a.2.2.2.1 a.2.2.2.2.1 a.2.2.2.2.2.1 a.2.2.2.2.2.2.1 a.2.2.2.2.2.2.2 b.1 b.2.1 b.2.2.1 b.2.2.2.1 b.2.2.2.2.1 b.2.2.2.2.2.1 b.2.2.2.2.2.2.1 b.2.2.2.2.2.2.2 = some (scmp A B) := by
  obtain ⟨a0, a1, a2, a3, a4, a5, a6, a7⟩ := a
  obtain ⟨b0, b1, b2, b3, b4, b5, b6, b7⟩ := b
  obtain ⟨p0, p1, p2, p3, p4, p5, p6, p7, v⟩ := ha
  obtain ⟨q0, q1, q2, q3, q4, q5, q6, q7, u⟩ := hb
  simp only at p0 p1 p2 p3 p4 p5 p6 p7 v q0 q1 q2 q3 q4 q5 q6 q7 u
  unfold calamusref01_Cmp.f calamusref01_Cmp.all
  simp only [calamusref01_Cmp.go, List.getD_cons_zero, List.getD_cons_succ]
  congr 1
  have mk1 : sv A > sv B → scmp A B = 1 := fun h => by unfold scmp; rw [if_pos h]
  have mk2 : sv A < sv B → scmp A B = -1 := fun h => by unfold scmp; rw [if_neg (by omega), if_pos h]
  have mk3 : sv A = sv B → scmp A B = 0 := fun h => by unfold scmp; rw [if_neg (by omega), if_neg (by omega)]
  have hA : a7 ≥ 32768 → sv A = A - 340282366920938463463374607431768211456 := fun h => by unfold sv; rw [if_pos (by omega)]
  have hA' : ¬ a7 ≥ 32768 → sv A = A := fun h => by unfold sv; rw [if_neg (by omega)]
  have hB : b7 ≥ 32768 → sv B = B - 340282366920938463463374607431768211456 := fun h => by unfold sv; rw [if_pos (by omega)]
  have hB' : ¬ b7 ≥ 32768 → sv B = B := fun h => by unfold sv; rw [if_neg (by omega)]
  by_cases ca : a7 ≥ 32768 <;> by_cases cb : b7 ≥ 32768
  · have eA := hA ca
    have eB := hB cb
    clear hA hA' hB hB'
    rw [decide_eq_true ca, decide_eq_true cb, if_pos rfl]
    refine go_step (fun h => mk1 (by omega)) (fun h => mk2 (by omega)) (fun e0 => ?_)
    refine go_step (fun h => mk1 (by omega)) (fun h => mk2 (by omega)) (fun e1 => ?_)
    refine go_step (fun h => mk1 (by omega)) (fun h => mk2 (by omega)) (fun e2 => ?_)
    refine go_step (fun h => mk1 (by omega)) (fun h => mk2 (by omega)) (fun e3 => ?_)
    refine go_step (fun h => mk1 (by omega)) (fun h => mk2 (by omega)) (fun e4 => ?_)
    refine go_step (fun h => mk1 (by omega)) (fun h => mk2 (by omega)) (fun e5 => ?_)
    refine go_step (fun h => mk1 (by omega)) (fun h => mk2 (by omega)) (fun e6 => ?_)
    refine go_step (fun h => mk1 (by omega)) (fun h => mk2 (by omega)) (fun e7 => ?_)
    exact (mk3 (by omega)).symm
  · have eA := hA ca
    have eB := hB' cb
    clear hA hA' hB hB'
    rw [decide_eq_true ca, decide_eq_false cb, if_neg (by decide), if_pos ca, mk2 (by omega)]
  · have eA := hA' ca
    have eB := hB cb
    clear hA hA' hB hB'
    rw [decide_eq_false ca, decide_eq_true cb, if_neg (by decide), if_neg ca, mk1 (by omega)]
  · have eA := hA' ca
    have eB := hB' cb
    clear hA hA' hB hB'
    rw [decide_eq_false ca, decide_eq_false cb, if_pos rfl]
    refine go_step (fun h => mk1 (by omega)) (fun h => mk2 (by omega)) (fun e0 => ?_)
    refine go_step (fun h => mk1 (by omega)) (fun h => mk2 (by omega)) (fun e1 => ?_)
    refine go_step (fun h => mk1 (by omega)) (fun h => mk2 (by omega)) (fun e2 => ?_)
    refine go_step (fun h => mk1 (by omega)) (fun h => mk2 (by omega)) (fun e3 => ?_)
    refine go_step (fun h => mk1 (by omega)) (fun h => mk2 (by omega)) (fun e4 => ?_)
    refine go_step (fun h => mk1 (by omega)) (fun h => mk2 (by omega)) (fun e5 => ?_)
    refine go_step (fun h => mk1 (by omega)) (fun h => mk2 (by omega)) (fun e6 => ?_)
    refine go_step (fun h => mk1 (by omega)) (fun h => mk2 (by omega)) (fun e7 => ?_)
    exact (mk3 (by omega)).symm
set_option maxHeartbeats 8000000 in
theorem Sign_D {A : Int} {a : T8} (ha : D A a) :
    calamusref01_Sign.f a.1 a.2.1 a.2.2.1 a.2.2.2.1 a.2.2.2.2.1 a.2.2.2.2.2.1 a.2.2.2.2.2.2.1 a.2.2.2.2.2.2.2 = some (scmp A 0) := by
  obtain ⟨a0, a1, a2, a3, a4, a5, a6, a7⟩ := a
  obtain ⟨p0, p1, p2, p3, p4, p5, p6, p7, v⟩ := ha
  simp only at p0 p1 p2 p3 p4 p5 p6 p7 v
  unfold calamusref01_Sign.f
  have sA : sv A = if a7 ≥ 32768 then A - 340282366920938463463374607431768211456 else A := by unfold sv; omega
  have sB : sv 0 = 0 := by decide
  have mk1 : sv A > sv 0 → scmp A 0 = 1 := fun h => by unfold scmp; rw [if_pos h]
  have mk2 : sv A < sv 0 → scmp A 0 = -1 := fun h => by unfold scmp; rw [if_neg (by omega), if_pos h]
  have mk3 : sv A = sv 0 → scmp A 0 = 0 := fun h => by unfold scmp; rw [if_neg (by omega), if_neg (by omega)]
  simp only
  repeat' split
  all_goals first
    | (rw [mk1 (by omega)])
    | (rw [mk2 (by omega)])
    | (rw [mk3 (by omega)])
end Go.Proofs.Ytiicdgimffpckaa.W.Base
