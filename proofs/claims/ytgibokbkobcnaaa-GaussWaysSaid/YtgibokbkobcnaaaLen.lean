import Derived.Test.YtgibokbkobcnaaaProg
import Derived.Lib.Strings
import Derived.Lib.Slices
import Derived.Lib.Small
import Derived.Lib.Walk
import Derived.Lib.BitFns
import Derived.Laws.Externs
import Derived.Tactics
import Derived.ChangeKeysEq
import Derived.Laws.StructEq
import Derived.RowKit
import Derived.RowKit3
namespace Go.Proofs.Ytgibokbkobcnaaa.Len
open Go
set_option linter.unusedVariables false
set_option linter.unusedSimpArgs false
theorem eqI_cons {P : Program} {d : Nat} {e : TypeId} {c : Nat} {xs ys : Array Value} {i : Nat} {is : List Nat} {a b : Value} {r s : Bool} {w : World}
    (ha : (part e xs (i * c)).run P w = .ok a w) (hb : (part e ys (i * c)).run P w = .ok b w) (he : (Op.equalIn d e a b).run P w = .ok r w) (hr : (Op.eqItems d e c xs ys is).run P w = .ok s w) :
    (Op.eqItems d e c xs ys (i :: is)).run P w = .ok (r && s) w := by
  rw [Op.eqItems]
  simp only [Sem.run_bind, ha, hb, he, Result.andThen_ok]
  cases r
  · simp
  · simpa using hr
theorem eqI_nil {P : Program} {d : Nat} {e : TypeId} {c : Nat} {xs ys : Array Value} {w : World} : (Op.eqItems d e c xs ys []).run P w = .ok true w := by simp [Op.eqItems]
theorem eqANum (d : Nat) (w : World) (x0 x1 x2 x3 x4 x5 x6 x7 y0 y1 y2 y3 y4 y5 y6 y7 : Int) :
    (Op.equalIn (d + 2) 72 (.agg #[.int .u32 x0, .int .u32 x1, .int .u32 x2, .int .u32 x3, .int .u32 x4, .int .u32 x5, .int .u32 x6, .int .u32 x7]) (.agg #[.int .u32 y0, .int .u32 y1, .int .u32 y2, .int .u32 y3, .int .u32 y4, .int .u32 y5, .int .u32 y6, .int .u32 y7])).run Try.prog w = .ok (x0 == y0 && (x1 == y1 && (x2 == y2 && (x3 == y3 && (x4 == y4 && (x5 == y5 && (x6 == y6 && (x7 == y7 && true)))))))) w := by
  have hu := Try.underlying72
  have hu1 := Try.underlying64
  have he : ∀ (a b : Int) (W : World), (Op.equalIn (d + 1) 64 (.int .u32 a) (.int .u32 b)).run Try.prog W = .ok (a == b) W := fun a b W => run_equalIn_int W d _ _ _ a b hu1
  have hs : (Try.prog.info? 64).isSome = true := by kernel_rfl
  obtain ⟨i, hi⟩ := Option.isSome_iff_exists.mp hs
  rw [show d + 2 = (d + 1) + 1 from rfl, run_equalIn_array w (d + 1) _ _ hu hi]
  have hc : Try.prog.cellsOf 64 = 1 := by kernel_rfl
  rw [hc]
  simp only [show List.range 8 = [0, 1, 2, 3, 4, 5, 6, 7] from rfl]
  refine eqI_cons (by go_simp) (by go_simp) (he _ _ _) ?_
  refine eqI_cons (by go_simp) (by go_simp) (he _ _ _) ?_
  refine eqI_cons (by go_simp) (by go_simp) (he _ _ _) ?_
  refine eqI_cons (by go_simp) (by go_simp) (he _ _ _) ?_
  refine eqI_cons (by go_simp) (by go_simp) (he _ _ _) ?_
  refine eqI_cons (by go_simp) (by go_simp) (he _ _ _) ?_
  refine eqI_cons (by go_simp) (by go_simp) (he _ _ _) ?_
  exact eqI_cons (by go_simp) (by go_simp) (he _ _ _) eqI_nil
attribute [go_sem high] eqANum

set_option maxHeartbeats 4000000 in
set_option maxRecDepth 100000 in
theorem bits_Len64.raw (x : Int) (w : World) (h0 : 0 ≤ x) (h1 : x ≤ 18446744073709551615) :
    Calls Try.prog 76 #[.int .u64 x] w fun e w' => e = .returned (.int .i64 (Lib.bitLen x.toNat)) ∧ w' = w := by
  go_enter Try.func76, Try.ntmps76
  go_wp2
  all_goals (go_ret; refine ⟨congrArg Ending.returned (congrArg (Value.int IntKind.i64) ?_), rfl⟩)
  all_goals first
    | (rw [Lib.len8_of (x / 4294967296 / 65536 / 256 % 256) (by omega) (by omega)]
       have e : (x / 4294967296 / 65536 / 256 % 256).toNat = x.toNat / 72057594037927936 := by omega
       have l := Lib.bitLen_le8' (x / 4294967296 / 65536 / 256 % 256) (by omega) (by omega)
       have s := Lib.bitLen_shift56 x.toNat (by omega) (by omega)
       rw [e] at l ⊢
       omega)
    | (rw [Lib.len8_of (x / 4294967296 / 65536 % 256) (by omega) (by omega)]
       have e : (x / 4294967296 / 65536 % 256).toNat = x.toNat / 281474976710656 := by omega
       have l := Lib.bitLen_le8' (x / 4294967296 / 65536 % 256) (by omega) (by omega)
       have s := Lib.bitLen_shift48 x.toNat (by omega) (by omega)
       rw [e] at l ⊢
       omega)
    | (rw [Lib.len8_of (x / 4294967296 / 256 % 256) (by omega) (by omega)]
       have e : (x / 4294967296 / 256 % 256).toNat = x.toNat / 1099511627776 := by omega
       have l := Lib.bitLen_le8' (x / 4294967296 / 256 % 256) (by omega) (by omega)
       have s := Lib.bitLen_shift40 x.toNat (by omega) (by omega)
       rw [e] at l ⊢
       omega)
    | (rw [Lib.len8_of (x / 4294967296 % 256) (by omega) (by omega)]
       have e : (x / 4294967296 % 256).toNat = x.toNat / 4294967296 := by omega
       have l := Lib.bitLen_le8' (x / 4294967296 % 256) (by omega) (by omega)
       have s := Lib.bitLen_shift32 x.toNat (by omega) (by omega)
       rw [e] at l ⊢
       omega)
    | (rw [Lib.len8_of (x / 65536 / 256 % 256) (by omega) (by omega)]
       have e : (x / 65536 / 256 % 256).toNat = x.toNat / 16777216 := by omega
       have l := Lib.bitLen_le8' (x / 65536 / 256 % 256) (by omega) (by omega)
       have s := Lib.bitLen_shift24 x.toNat (by omega) (by omega)
       rw [e] at l ⊢
       omega)
    | (rw [Lib.len8_of (x / 65536 % 256) (by omega) (by omega)]
       have e : (x / 65536 % 256).toNat = x.toNat / 65536 := by omega
       have l := Lib.bitLen_le8' (x / 65536 % 256) (by omega) (by omega)
       have s := Lib.bitLen_shift16 x.toNat (by omega) (by omega)
       rw [e] at l ⊢
       omega)
    | (rw [Lib.len8_of (x / 256 % 256) (by omega) (by omega)]
       have e : (x / 256 % 256).toNat = x.toNat / 256 := by omega
       have l := Lib.bitLen_le8' (x / 256 % 256) (by omega) (by omega)
       have s := Lib.bitLen_shift8 x.toNat (by omega) (by omega)
       rw [e] at l ⊢
       omega)
    | (rw [Lib.len8_of (x % 256) (by omega) (by omega)]
       have e : (x % 256).toNat = x.toNat := by omega
       have l := Lib.bitLen_le8' (x % 256) (by omega) (by omega)
       rw [e] at l ⊢
       omega)

end Go.Proofs.Ytgibokbkobcnaaa.Len
