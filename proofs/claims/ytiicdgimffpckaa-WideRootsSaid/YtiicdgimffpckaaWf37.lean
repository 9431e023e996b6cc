/- What Go functions answer, as Lean functions, and that they do: written by wip/xprint.py of this session (the kit's printer with turns, texts by hand among them). -/
import Derived.Test.YtiicdgimffpckaaW0
import Derived.Test.YtiicdgimffpckaaWd0
namespace Go.Proofs.Ytiicdgimffpckaa.W
open Go.RowKit Go.Proofs.YtiicdgimffpckaaW.PrintWords Go.Proofs.YtiicdgimffpckaaW.PrintLast Go.Proofs.YtiicdgimffpckaaW.PrintMore
attribute [local go_sem] max2_int min2_int max_two min_two max_three min_three max_four min_four   -- for this text's walks alone
set_option linter.unusedVariables false
set_option linter.unusedSimpArgs false

/-! ### calamusref01_Cmp: function 37 -/
-- CALLS
theorem calamusref01_Cmp.cell {W : World} {g : Nat} {l : List Int} (h : W.heap[g]? = some (.cells (nums .u32 l).toArray 34 (0, 0))) (i : Nat) (hi : i < l.length) : W.cell? ⟨g, i, none⟩ = some (.int .u32 (l.getD i 0)) := by
  rw [blk_cell h i]
  simp [nums, hi]
set_option maxRecDepth 100000 in
theorem calamusref01_Cmp.addr (i : Nat) (hi : i < 8) : ∀ (b o : Nat) (W : World), (Instr.indexAt 34 (.pointer (some ⟨b, o, none⟩)) (.int .i64 (i : Int))).run Try.prog W = .ok (.pointer (some ⟨b, o + i, none⟩)) W := by
  intro b o W
  have : i = 0 ∨ i = 1 ∨ i = 2 ∨ i = 3 ∨ i = 4 ∨ i = 5 ∨ i = 6 ∨ i = 7 := by omega
  rcases this with rfl | rfl | rfl | rfl | rfl | rfl | rfl | rfl <;> rfl
/-- What stands in memory. -/
structure calamusref01_Cmp.St (w wr : World) (a b : List Int) : Prop where
  A : wr.heap[w.heap.size]? = some (.cells (nums .u32 a).toArray 34 (0, 0))
  B : wr.heap[w.heap.size + 1]? = some (.cells (nums .u32 b).toArray 34 (0, 0))
  L : Below w.heap.size w wr
theorem calamusref01_Cmp.St.drewN {w wr : World} {a b : List Int} (h : calamusref01_Cmp.St w wr a b) (m : Nat) : calamusref01_Cmp.St w (wr.drewN m) a b := ⟨blk_drewN h.A m, blk_drewN h.B m, pw_below_drewN h.L m⟩
set_option maxHeartbeats 16000000 in
set_option maxRecDepth 100000 in
theorem calamusref01_Cmp.walk (a b : List Int) (r : Int) (ha : a.length = 8) (hb : b.length = 8) (w : World) (hr : calamusref01_Cmp.all a b = r) :
    Calls Try.prog 37 #[.agg (nums .u32 a).toArray, .agg (nums .u32 b).toArray] w fun e w' => e = .returned (.int .i64 r) ∧ Below w.heap.size w w' := by
  have hu1 := Try.underlying34
  have hu2 := Try.underlying32
  have hu3 := Try.underlying3
  have HA := Aside0.mk ha
  have HB := Aside0.mk hb
  have hS0 : calamusref01_Cmp.St w ((w.alloc (.cells (nums .u32 a).toArray 34 (0, 0))).alloc (.cells (nums .u32 b).toArray 34 (0, 0))) a b := ⟨blk_alloc (blk_new _ _) _, Aid.blk_top _ _ _ (by simp), below_alloc (below_alloc (Below.refl _ _) _) _⟩
  have HS0 := Aside0.mk hS0
  have hc1 := calamusref01_Cmp.cell hS0.A 7 (by omega)
  have hc2 := calamusref01_Cmp.cell hS0.B 7 (by omega)
  have hx7 := calamusref01_Cmp.addr 7 (by omega)
  clear hS0 ha hb
  unfold calamusref01_Cmp.all at hr
  obtain ⟨a7, ha7⟩ : ∃ x, a.getD 7 0 = x := ⟨_, rfl⟩
  obtain ⟨b7, hb7⟩ : ∃ x, b.getD 7 0 = x := ⟨_, rfl⟩
  rw [ha7] at hr hc1
  rw [hb7] at hr hc2
  clear ha7 hb7
  have main : ∀ (p q : Bool), decide (32768 ≤ a7) = p → decide (32768 ≤ b7) = q → (if p = q then calamusref01_Cmp.go a b 8 else if p = true then -1 else 1) = r → Calls Try.prog 37 #[.agg (nums .u32 a).toArray, .agg (nums .u32 b).toArray] w fun e w' => e = .returned (.int .i64 r) ∧ Below w.heap.size w w' := by
    clear hr
    intro p q hp hq hr
    by_cases hpq : p = q
    · subst hpq
      rw [if_pos rfl] at hr
      have hne : (p != p) = false := by cases p <;> rfl
      have HR := Aside0.mk hr
      clear hr
      go_enter Try.func37, Try.ntmps37
      go_wp2
      go_quiet (fail)
      go_wp2
      go_loopw [7] (fun iv wr => ∃ (i : Nat) (x : Int), i ≤ 8 ∧ iv = .int .i64 x ∧ x = (i : Int) - 1 ∧ Aside0 (calamusref01_Cmp.go a b i = r) ∧ Aside0 (calamusref01_Cmp.St w wr a b)) (fun iv _ => (intOf iv + 1).toNat)
      case atStart => exact ⟨8, 7, by omega, rfl, rfl, HR, ⟨HS0.out.drewN _⟩⟩
      case round =>
        obtain ⟨i, x, hi8, rfl, hx, HG, hS⟩ := hrel
        by_cases h0 : i = 0
        · subst h0
          obtain rfl : x = -1 := by omega
          obtain rfl : 0 = r := HG.out
          have HS := hS
          clear hx HG hi8 hS hne
          go_wp2
          go_ret
          exact ⟨rfl, HS.out.L⟩
        · obtain ⟨j, rfl⟩ : ∃ j, i = j + 1 := ⟨i - 1, by omega⟩
          obtain rfl : x = (j : Int) := by omega
          have hge : decide ((0 : Int) ≤ (j : Int)) = true := decide_eq_true (by omega)
          have hw : IntKind.i64.wrap ((j : Int) - 1) = (j : Int) - 1 := (i64_w _).trans (by unfold wrap64; omega)
          have hd1 := calamusref01_Cmp.cell hS.out.A j (by have := HA.out; omega)
          have hd2 := calamusref01_Cmp.cell hS.out.B j (by have := HB.out; omega)
          have hxj := calamusref01_Cmp.addr j (by omega)
          have hg := HG.out
          rw [calamusref01_Cmp.go] at hg
          generalize a.getD j 0 = av at *
          generalize b.getD j 0 = bv at *
          have HS := hS
          clear hS HG hx h0
          by_cases h3 : bv < av
          · rw [if_pos h3] at hg
            subst hg
            have h3b : decide (bv < av) = true := decide_eq_true h3
            clear h3
            go_wp2
            go_quiet (fail)
            go_wp2
            go_ret
            exact ⟨rfl, pw_below_drewN HS.out.L _⟩
          · rw [if_neg h3] at hg
            have h3b : decide (bv < av) = false := decide_eq_false h3
            clear h3
            by_cases h4 : av < bv
            · rw [if_pos h4] at hg
              subst hg
              have h4b : decide (av < bv) = true := decide_eq_true h4
              clear h4
              go_wp2
              go_quiet (fail)
              go_wp2
              go_quiet (fail)
              go_wp2
              go_ret
              exact ⟨rfl, pw_below_drewN (pw_below_drewN HS.out.L _) _⟩
            · rw [if_neg h4] at hg
              have h4b : decide (av < bv) = false := decide_eq_false h4
              have HG2 := Aside0.mk hg
              clear h4 hg
              go_wp2
              go_quiet (fail)
              go_wp2
              go_quiet (fail)
              go_wp2
              go_roundw
              case rel => exact ⟨j, _, by omega, rfl, rfl, HG2, ⟨HS.out.drewN _⟩⟩
              case measure => simp [intOf]
    · rw [if_neg hpq] at hr
      have hne : (p != q) = true := bne_iff_ne.mpr hpq
      clear hpq
      cases p
      · obtain rfl : 1 = r := hr
        obtain rfl : q = true := by cases q <;> first | rfl | cases hne
        clear hne
        go_enter Try.func37, Try.ntmps37
        go_wp2
        go_quiet (fail)
        go_wp2
        go_ret
        exact ⟨rfl, pw_below_drewN HS0.out.L _⟩
      · obtain rfl : -1 = r := hr
        obtain rfl : q = false := by cases q <;> first | rfl | cases hne
        clear hne
        go_enter Try.func37, Try.ntmps37
        go_wp2
        go_quiet (fail)
        go_wp2
        go_ret
        exact ⟨rfl, pw_below_drewN HS0.out.L _⟩
  refine main _ _ rfl rfl ?_
  rw [← hr]
  by_cases h1 : 32768 ≤ a7 <;> by_cases h2 : 32768 ≤ b7 <;> simp [h1, h2]
theorem calamusref01_Cmp.calls (a0_0 a0_1 a0_2 a0_3 a0_4 a0_5 a0_6 a0_7 a1_0 a1_1 a1_2 a1_3 a1_4 a1_5 a1_6 a1_7 : Int) (r : Int) (w : World) (h : calamusref01_Cmp.f a0_0 a0_1 a0_2 a0_3 a0_4 a0_5 a0_6 a0_7 a1_0 a1_1 a1_2 a1_3 a1_4 a1_5 a1_6 a1_7 = some r) :
    Calls Try.prog 37 #[.agg #[.int .u32 a0_0, .int .u32 a0_1, .int .u32 a0_2, .int .u32 a0_3, .int .u32 a0_4, .int .u32 a0_5, .int .u32 a0_6, .int .u32 a0_7], .agg #[.int .u32 a1_0, .int .u32 a1_1, .int .u32 a1_2, .int .u32 a1_3, .int .u32 a1_4, .int .u32 a1_5, .int .u32 a1_6, .int .u32 a1_7]] w fun e w' => e = .returned (.int .i64 r) ∧ Below w.heap.size w w' :=
  calamusref01_Cmp.walk [a0_0, a0_1, a0_2, a0_3, a0_4, a0_5, a0_6, a0_7] [a1_0, a1_1, a1_2, a1_3, a1_4, a1_5, a1_6, a1_7] r rfl rfl w (Option.some.inj h)

end Go.Proofs.Ytiicdgimffpckaa.W
