/- What Go functions answer, as Lean functions, and that they do: written by wip/xprint.py of this session (the kit's printer with turns, texts by hand among them). -/
import Derived.Test.YtiicdgimffpckaaW0
import Derived.Test.YtiicdgimffpckaaWd0
import Derived.Test.YtiicdgimffpckaaWf31
import Derived.Test.YtiicdgimffpckaaWf15
import Derived.Test.YtiicdgimffpckaaWf17
import Derived.Test.YtiicdgimffpckaaWf18
import Derived.Test.YtiicdgimffpckaaWf25
import Derived.Test.YtiicdgimffpckaaWf29
import Derived.Test.YtiicdgimffpckaaWf30
import Derived.Test.YtiicdgimffpckaaWf32
import Derived.Test.YtiicdgimffpckaaWf33
import Derived.Test.YtiicdgimffpckaaWf34
import Derived.Test.YtiicdgimffpckaaWf36
import Derived.Test.YtiicdgimffpckaaWf35
import Derived.Test.YtiicdgimffpckaaWf37
import Derived.Test.YtiicdgimffpckaaWf38
namespace Go.Proofs.Ytiicdgimffpckaa.W
open Go.RowKit Go.Proofs.YtiicdgimffpckaaW.PrintWords Go.Proofs.YtiicdgimffpckaaW.PrintLast Go.Proofs.YtiicdgimffpckaaW.PrintMore
attribute [local go_sem] max2_int min2_int max_two min_two max_three min_three max_four min_four   -- for this text's walks alone
set_option linter.unusedVariables false
set_option linter.unusedSimpArgs false

/-! ### calamuslaw01_WideAdds: function 10 -/
def calamuslaw01_WideAdds.T3 : Bool × List (List Nat × List Nat) := (true, [([], []), ([0], [0]), ([], []), ([2, 1], [2]), ([], []), ([], []), ([4, 1, 3, 0, 1, 4, 5], [1, 4]), ([5, 3, 6, 0, 1, 2, 3, 4, 5, 6], [3, 5])])
def calamuslaw01_WideAdds.B3 : List Nat := [0, 1, 0, 7, 0, 0, 63, 127]
theorem calamuslaw01_WideAdds.tab3 : rtab .any (opsOf Try.f10 3) = calamuslaw01_WideAdds.T3 := by kernel_rfl
theorem calamuslaw01_WideAdds.bits3 : waitsOk calamuslaw01_WideAdds.T3.2 calamuslaw01_WideAdds.B3 = true := by kernel_rfl
def calamuslaw01_WideAdds.T4 : Bool × List (List Nat × List Nat) := (true, [([], []), ([], []), ([0, 1], [0, 1]), ([], []), ([3, 2], [3]), ([], []), ([5, 4], [5]), ([4, 6, 6], [4, 6]), ([2, 7, 7], [2, 7]), ([8, 8], [8]), ([9], [9]), ([9], [9]), ([10, 11, 9, 9], [9, 10, 11]), ([9], [9]), ([13, 12, 9], [9, 13]), ([9], [9]), ([15, 14, 9], [9, 15]), ([14, 16, 16, 9], [9, 14, 16]), ([12, 17, 17, 9], [9, 12, 17]), ([9, 18], [9, 18]), ([19, 18], [19]), ([20], [20]), ([21, 20, 20], [20, 21]), ([20], [20]), ([23, 22, 20], [20, 23]), ([24, 24, 20], [20, 24]), ([22, 25, 25, 20], [20, 22, 25]), ([20, 26], [20, 26]), ([27, 26], [27]), ([28], [28]), ([28], [28]), ([29, 30, 28, 28], [28, 29, 30]), ([28], [28]), ([32, 31, 28], [28, 32]), ([28], [28]), ([34, 33, 28], [28, 34]), ([33, 35, 35, 28], [28, 33, 35]), ([31, 36, 28], [28, 31, 36]), ([28, 37], [28, 37]), ([38, 36], [38]), ([39], [39]), ([40, 39, 39], [39, 40]), ([39], [39]), ([42, 41, 39], [39, 42]), ([43, 43, 39], [39, 43]), ([41, 44, 39], [39, 41, 44]), ([39, 45], [39, 45]), ([46, 44, 0, 1, 2, 3, 4, 5, 6, 7, 8, 9, 10, 11, 12, 13, 14, 15, 16, 17, 18, 19, 20, 21, 22, 23, 24, 25, 26, 27, 28, 29, 30, 31, 32, 33, 34, 35, 36, 37, 38, 39, 40, 41, 42, 43, 44, 45, 46], [46])])
def calamuslaw01_WideAdds.B4 : List Nat := [0, 0, 3, 0, 15, 0, 63, 127, 255, 511, 1023, 1023, 4095, 1023, 16383, 1023, 65535, 131071, 262143, 524287, 1048575, 2097151, 4194303, 2097151, 16777215, 33554431, 67108863, 134217727, 268435455, 536870911, 536870911, 2147483647, 536870911, 8589934591, 536870911, 34359738367, 68719476735, 137438953471, 274877906943, 549755813887, 1099511627775, 2199023255551, 1099511627775, 8796093022207, 17592186044415, 35184372088831, 70368744177663, 140737488355327]
theorem calamuslaw01_WideAdds.tab4 : rtab .any (opsOf Try.f10 4) = calamuslaw01_WideAdds.T4 := by kernel_rfl
theorem calamuslaw01_WideAdds.bits4 : waitsOk calamuslaw01_WideAdds.T4.2 calamuslaw01_WideAdds.B4 = true := by kernel_rfl
set_option maxHeartbeats 8000000 in
set_option maxRecDepth 100000 in
theorem calamuslaw01_WideAdds.calls (k : Nat) (a0_0 : Int) (a0_1 : Int) (a1_0 : Int) (a1_1 : Int) (r : Bool) (w : World) (h : calamuslaw01_WideAdds.f k a0_0 a0_1 a1_0 a1_1 = some r) :
    Calls Try.prog 10 #[.agg #[.int .i64 a0_0, .int .u64 a0_1], .agg #[.int .i64 a1_0, .int .u64 a1_1]] w fun e w' => e = .returned (.bool r) ∧ Below w.heap.size w w' := by
  have hu24 := Try.underlying24
  have hu28 := Try.underlying28
  have HB := Aside0.mk (Below.refl w.heap.size w)
  have H : ((calamuslaw01_alive.f k).bind fun t207 => (if t207 = true then ((calamuslaw01_Two_own.f a0_0 a0_1).bind fun bt208 => ((calamuslaw01_Two_own.f a1_0 a1_1).bind fun bt210 => ((wide_Add.f bt208.1 bt208.2 bt210.1 bt210.2).bind fun bt214 => ((calamuslaw01_Two_ref.f a0_0 a0_1).bind fun bt216 => ((calamuslaw01_Two_ref.f a1_0 a1_1).bind fun bt224 => ((calamusref01_Add.f bt216.1 bt216.2.1 bt216.2.2.1 bt216.2.2.2.1 bt216.2.2.2.2.1 bt216.2.2.2.2.2.1 bt216.2.2.2.2.2.2.1 bt216.2.2.2.2.2.2.2 bt224.1 bt224.2.1 bt224.2.2.1 bt224.2.2.2.1 bt224.2.2.2.2.1 bt224.2.2.2.2.2.1 bt224.2.2.2.2.2.2.1 bt224.2.2.2.2.2.2.2).bind fun bt232 => ((calamuslaw01_is.f bt214.1 bt214.2 bt232.1 bt232.2.1 bt232.2.2.1 bt232.2.2.2.1 bt232.2.2.2.2.1 bt232.2.2.2.2.2.1 bt232.2.2.2.2.2.2.1 bt232.2.2.2.2.2.2.2).bind fun t240 => (if t240 = true then ((wide_Sub.f bt208.1 bt208.2 bt210.1 bt210.2).bind fun bt241 => ((calamuslaw01_Two_ref.f a0_0 a0_1).bind fun bt243 => ((calamuslaw01_Two_ref.f a1_0 a1_1).bind fun bt251 => ((calamusref01_Sub.f bt243.1 bt243.2.1 bt243.2.2.1 bt243.2.2.2.1 bt243.2.2.2.2.1 bt243.2.2.2.2.2.1 bt243.2.2.2.2.2.2.1 bt243.2.2.2.2.2.2.2 bt251.1 bt251.2.1 bt251.2.2.1 bt251.2.2.2.1 bt251.2.2.2.2.1 bt251.2.2.2.2.2.1 bt251.2.2.2.2.2.2.1 bt251.2.2.2.2.2.2.2).bind fun bt259 => ((calamuslaw01_is.f bt241.1 bt241.2 bt259.1 bt259.2.1 bt259.2.2.1 bt259.2.2.2.1 bt259.2.2.2.2.1 bt259.2.2.2.2.2.1 bt259.2.2.2.2.2.2.1 bt259.2.2.2.2.2.2.2).bind fun t267 => (if t267 = true then ((wide_Neg.f bt208.1 bt208.2).bind fun bt268 => ((calamuslaw01_Two_ref.f a0_0 a0_1).bind fun bt270 => ((calamusref01_Neg.f bt270.1 bt270.2.1 bt270.2.2.1 bt270.2.2.2.1 bt270.2.2.2.2.1 bt270.2.2.2.2.2.1 bt270.2.2.2.2.2.2.1 bt270.2.2.2.2.2.2.2).bind fun bt278 => ((calamuslaw01_is.f bt268.1 bt268.2 bt278.1 bt278.2.1 bt278.2.2.1 bt278.2.2.2.1 bt278.2.2.2.2.1 bt278.2.2.2.2.2.1 bt278.2.2.2.2.2.2.1 bt278.2.2.2.2.2.2.2).bind fun t286 => (if t286 = true then ((wide_Cmp.f k bt208.1 bt208.2 bt210.1 bt210.2).bind fun t287 => ((calamuslaw01_Two_ref.f a0_0 a0_1).bind fun bt288 => ((calamuslaw01_Two_ref.f a1_0 a1_1).bind fun bt296 => ((calamusref01_Cmp.f bt288.1 bt288.2.1 bt288.2.2.1 bt288.2.2.2.1 bt288.2.2.2.2.1 bt288.2.2.2.2.2.1 bt288.2.2.2.2.2.2.1 bt288.2.2.2.2.2.2.2 bt296.1 bt296.2.1 bt296.2.2.1 bt296.2.2.2.1 bt296.2.2.2.2.1 bt296.2.2.2.2.2.1 bt296.2.2.2.2.2.2.1 bt296.2.2.2.2.2.2.2).bind fun t304 => (if t287 = t304 then ((wide_Sign.f k bt208.1 bt208.2).bind fun t305 => ((calamuslaw01_Two_ref.f a0_0 a0_1).bind fun bt306 => ((calamusref01_Sign.f bt306.1 bt306.2.1 bt306.2.2.1 bt306.2.2.2.1 bt306.2.2.2.2.1 bt306.2.2.2.2.2.1 bt306.2.2.2.2.2.2.1 bt306.2.2.2.2.2.2.2).bind fun t314 => (some (t305 == t314))))) else (none)))))) else (none)))))) else (none))))))) else (none))))))))) else (none))) = some r := h
  clear h
  replace H := Option.bind_eq_some_iff.mp H
  obtain ⟨t207, A30, H⟩ := H
  replace H : (if t207 = true then ((calamuslaw01_Two_own.f a0_0 a0_1).bind fun bt208 => ((calamuslaw01_Two_own.f a1_0 a1_1).bind fun bt210 => ((wide_Add.f bt208.1 bt208.2 bt210.1 bt210.2).bind fun bt214 => ((calamuslaw01_Two_ref.f a0_0 a0_1).bind fun bt216 => ((calamuslaw01_Two_ref.f a1_0 a1_1).bind fun bt224 => ((calamusref01_Add.f bt216.1 bt216.2.1 bt216.2.2.1 bt216.2.2.2.1 bt216.2.2.2.2.1 bt216.2.2.2.2.2.1 bt216.2.2.2.2.2.2.1 bt216.2.2.2.2.2.2.2 bt224.1 bt224.2.1 bt224.2.2.1 bt224.2.2.2.1 bt224.2.2.2.2.1 bt224.2.2.2.2.2.1 bt224.2.2.2.2.2.2.1 bt224.2.2.2.2.2.2.2).bind fun bt232 => ((calamuslaw01_is.f bt214.1 bt214.2 bt232.1 bt232.2.1 bt232.2.2.1 bt232.2.2.2.1 bt232.2.2.2.2.1 bt232.2.2.2.2.2.1 bt232.2.2.2.2.2.2.1 bt232.2.2.2.2.2.2.2).bind fun t240 => (if t240 = true then ((wide_Sub.f bt208.1 bt208.2 bt210.1 bt210.2).bind fun bt241 => ((calamuslaw01_Two_ref.f a0_0 a0_1).bind fun bt243 => ((calamuslaw01_Two_ref.f a1_0 a1_1).bind fun bt251 => ((calamusref01_Sub.f bt243.1 bt243.2.1 bt243.2.2.1 bt243.2.2.2.1 bt243.2.2.2.2.1 bt243.2.2.2.2.2.1 bt243.2.2.2.2.2.2.1 bt243.2.2.2.2.2.2.2 bt251.1 bt251.2.1 bt251.2.2.1 bt251.2.2.2.1 bt251.2.2.2.2.1 bt251.2.2.2.2.2.1 bt251.2.2.2.2.2.2.1 bt251.2.2.2.2.2.2.2).bind fun bt259 => ((calamuslaw01_is.f bt241.1 bt241.2 bt259.1 bt259.2.1 bt259.2.2.1 bt259.2.2.2.1 bt259.2.2.2.2.1 bt259.2.2.2.2.2.1 bt259.2.2.2.2.2.2.1 bt259.2.2.2.2.2.2.2).bind fun t267 => (if t267 = true then ((wide_Neg.f bt208.1 bt208.2).bind fun bt268 => ((calamuslaw01_Two_ref.f a0_0 a0_1).bind fun bt270 => ((calamusref01_Neg.f bt270.1 bt270.2.1 bt270.2.2.1 bt270.2.2.2.1 bt270.2.2.2.2.1 bt270.2.2.2.2.2.1 bt270.2.2.2.2.2.2.1 bt270.2.2.2.2.2.2.2).bind fun bt278 => ((calamuslaw01_is.f bt268.1 bt268.2 bt278.1 bt278.2.1 bt278.2.2.1 bt278.2.2.2.1 bt278.2.2.2.2.1 bt278.2.2.2.2.2.1 bt278.2.2.2.2.2.2.1 bt278.2.2.2.2.2.2.2).bind fun t286 => (if t286 = true then ((wide_Cmp.f k bt208.1 bt208.2 bt210.1 bt210.2).bind fun t287 => ((calamuslaw01_Two_ref.f a0_0 a0_1).bind fun bt288 => ((calamuslaw01_Two_ref.f a1_0 a1_1).bind fun bt296 => ((calamusref01_Cmp.f bt288.1 bt288.2.1 bt288.2.2.1 bt288.2.2.2.1 bt288.2.2.2.2.1 bt288.2.2.2.2.2.1 bt288.2.2.2.2.2.2.1 bt288.2.2.2.2.2.2.2 bt296.1 bt296.2.1 bt296.2.2.1 bt296.2.2.2.1 bt296.2.2.2.2.1 bt296.2.2.2.2.2.1 bt296.2.2.2.2.2.2.1 bt296.2.2.2.2.2.2.2).bind fun t304 => (if t287 = t304 then ((wide_Sign.f k bt208.1 bt208.2).bind fun t305 => ((calamuslaw01_Two_ref.f a0_0 a0_1).bind fun bt306 => ((calamusref01_Sign.f bt306.1 bt306.2.1 bt306.2.2.1 bt306.2.2.2.1 bt306.2.2.2.2.1 bt306.2.2.2.2.2.1 bt306.2.2.2.2.2.2.1 bt306.2.2.2.2.2.2.2).bind fun t314 => (some (t305 == t314))))) else (none)))))) else (none)))))) else (none))))))) else (none))))))))) else (none)) = some r := H
  have A3 := Aside0.mk A30
  clear A30
  by_cases c4 : t207 = true
  · subst c4
    have H1 : ((calamuslaw01_Two_own.f a0_0 a0_1).bind fun bt208 => ((calamuslaw01_Two_own.f a1_0 a1_1).bind fun bt210 => ((wide_Add.f bt208.1 bt208.2 bt210.1 bt210.2).bind fun bt214 => ((calamuslaw01_Two_ref.f a0_0 a0_1).bind fun bt216 => ((calamuslaw01_Two_ref.f a1_0 a1_1).bind fun bt224 => ((calamusref01_Add.f bt216.1 bt216.2.1 bt216.2.2.1 bt216.2.2.2.1 bt216.2.2.2.2.1 bt216.2.2.2.2.2.1 bt216.2.2.2.2.2.2.1 bt216.2.2.2.2.2.2.2 bt224.1 bt224.2.1 bt224.2.2.1 bt224.2.2.2.1 bt224.2.2.2.2.1 bt224.2.2.2.2.2.1 bt224.2.2.2.2.2.2.1 bt224.2.2.2.2.2.2.2).bind fun bt232 => ((calamuslaw01_is.f bt214.1 bt214.2 bt232.1 bt232.2.1 bt232.2.2.1 bt232.2.2.2.1 bt232.2.2.2.2.1 bt232.2.2.2.2.2.1 bt232.2.2.2.2.2.2.1 bt232.2.2.2.2.2.2.2).bind fun t240 => (if t240 = true then ((wide_Sub.f bt208.1 bt208.2 bt210.1 bt210.2).bind fun bt241 => ((calamuslaw01_Two_ref.f a0_0 a0_1).bind fun bt243 => ((calamuslaw01_Two_ref.f a1_0 a1_1).bind fun bt251 => ((calamusref01_Sub.f bt243.1 bt243.2.1 bt243.2.2.1 bt243.2.2.2.1 bt243.2.2.2.2.1 bt243.2.2.2.2.2.1 bt243.2.2.2.2.2.2.1 bt243.2.2.2.2.2.2.2 bt251.1 bt251.2.1 bt251.2.2.1 bt251.2.2.2.1 bt251.2.2.2.2.1 bt251.2.2.2.2.2.1 bt251.2.2.2.2.2.2.1 bt251.2.2.2.2.2.2.2).bind fun bt259 => ((calamuslaw01_is.f bt241.1 bt241.2 bt259.1 bt259.2.1 bt259.2.2.1 bt259.2.2.2.1 bt259.2.2.2.2.1 bt259.2.2.2.2.2.1 bt259.2.2.2.2.2.2.1 bt259.2.2.2.2.2.2.2).bind fun t267 => (if t267 = true then ((wide_Neg.f bt208.1 bt208.2).bind fun bt268 => ((calamuslaw01_Two_ref.f a0_0 a0_1).bind fun bt270 => ((calamusref01_Neg.f bt270.1 bt270.2.1 bt270.2.2.1 bt270.2.2.2.1 bt270.2.2.2.2.1 bt270.2.2.2.2.2.1 bt270.2.2.2.2.2.2.1 bt270.2.2.2.2.2.2.2).bind fun bt278 => ((calamuslaw01_is.f bt268.1 bt268.2 bt278.1 bt278.2.1 bt278.2.2.1 bt278.2.2.2.1 bt278.2.2.2.2.1 bt278.2.2.2.2.2.1 bt278.2.2.2.2.2.2.1 bt278.2.2.2.2.2.2.2).bind fun t286 => (if t286 = true then ((wide_Cmp.f k bt208.1 bt208.2 bt210.1 bt210.2).bind fun t287 => ((calamuslaw01_Two_ref.f a0_0 a0_1).bind fun bt288 => ((calamuslaw01_Two_ref.f a1_0 a1_1).bind fun bt296 => ((calamusref01_Cmp.f bt288.1 bt288.2.1 bt288.2.2.1 bt288.2.2.2.1 bt288.2.2.2.2.1 bt288.2.2.2.2.2.1 bt288.2.2.2.2.2.2.1 bt288.2.2.2.2.2.2.2 bt296.1 bt296.2.1 bt296.2.2.1 bt296.2.2.2.1 bt296.2.2.2.2.1 bt296.2.2.2.2.2.1 bt296.2.2.2.2.2.2.1 bt296.2.2.2.2.2.2.2).bind fun t304 => (if t287 = t304 then ((wide_Sign.f k bt208.1 bt208.2).bind fun t305 => ((calamuslaw01_Two_ref.f a0_0 a0_1).bind fun bt306 => ((calamusref01_Sign.f bt306.1 bt306.2.1 bt306.2.2.1 bt306.2.2.2.1 bt306.2.2.2.2.1 bt306.2.2.2.2.2.1 bt306.2.2.2.2.2.2.1 bt306.2.2.2.2.2.2.2).bind fun t314 => (some (t305 == t314))))) else (none)))))) else (none)))))) else (none))))))) else (none))))))))) = some r := by rw [if_pos rfl] at H; exact H
    clear H
    have H := H1
    clear H1
    replace H := Option.bind_eq_some_iff.mp H
    obtain ⟨⟨t208, t209⟩, A50, H⟩ := H
    replace H : ((calamuslaw01_Two_own.f a1_0 a1_1).bind fun bt210 => ((wide_Add.f t208 t209 bt210.1 bt210.2).bind fun bt214 => ((calamuslaw01_Two_ref.f a0_0 a0_1).bind fun bt216 => ((calamuslaw01_Two_ref.f a1_0 a1_1).bind fun bt224 => ((calamusref01_Add.f bt216.1 bt216.2.1 bt216.2.2.1 bt216.2.2.2.1 bt216.2.2.2.2.1 bt216.2.2.2.2.2.1 bt216.2.2.2.2.2.2.1 bt216.2.2.2.2.2.2.2 bt224.1 bt224.2.1 bt224.2.2.1 bt224.2.2.2.1 bt224.2.2.2.2.1 bt224.2.2.2.2.2.1 bt224.2.2.2.2.2.2.1 bt224.2.2.2.2.2.2.2).bind fun bt232 => ((calamuslaw01_is.f bt214.1 bt214.2 bt232.1 bt232.2.1 bt232.2.2.1 bt232.2.2.2.1 bt232.2.2.2.2.1 bt232.2.2.2.2.2.1 bt232.2.2.2.2.2.2.1 bt232.2.2.2.2.2.2.2).bind fun t240 => (if t240 = true then ((wide_Sub.f t208 t209 bt210.1 bt210.2).bind fun bt241 => ((calamuslaw01_Two_ref.f a0_0 a0_1).bind fun bt243 => ((calamuslaw01_Two_ref.f a1_0 a1_1).bind fun bt251 => ((calamusref01_Sub.f bt243.1 bt243.2.1 bt243.2.2.1 bt243.2.2.2.1 bt243.2.2.2.2.1 bt243.2.2.2.2.2.1 bt243.2.2.2.2.2.2.1 bt243.2.2.2.2.2.2.2 bt251.1 bt251.2.1 bt251.2.2.1 bt251.2.2.2.1 bt251.2.2.2.2.1 bt251.2.2.2.2.2.1 bt251.2.2.2.2.2.2.1 bt251.2.2.2.2.2.2.2).bind fun bt259 => ((calamuslaw01_is.f bt241.1 bt241.2 bt259.1 bt259.2.1 bt259.2.2.1 bt259.2.2.2.1 bt259.2.2.2.2.1 bt259.2.2.2.2.2.1 bt259.2.2.2.2.2.2.1 bt259.2.2.2.2.2.2.2).bind fun t267 => (if t267 = true then ((wide_Neg.f t208 t209).bind fun bt268 => ((calamuslaw01_Two_ref.f a0_0 a0_1).bind fun bt270 => ((calamusref01_Neg.f bt270.1 bt270.2.1 bt270.2.2.1 bt270.2.2.2.1 bt270.2.2.2.2.1 bt270.2.2.2.2.2.1 bt270.2.2.2.2.2.2.1 bt270.2.2.2.2.2.2.2).bind fun bt278 => ((calamuslaw01_is.f bt268.1 bt268.2 bt278.1 bt278.2.1 bt278.2.2.1 bt278.2.2.2.1 bt278.2.2.2.2.1 bt278.2.2.2.2.2.1 bt278.2.2.2.2.2.2.1 bt278.2.2.2.2.2.2.2).bind fun t286 => (if t286 = true then ((wide_Cmp.f k t208 t209 bt210.1 bt210.2).bind fun t287 => ((calamuslaw01_Two_ref.f a0_0 a0_1).bind fun bt288 => ((calamuslaw01_Two_ref.f a1_0 a1_1).bind fun bt296 => ((calamusref01_Cmp.f bt288.1 bt288.2.1 bt288.2.2.1 bt288.2.2.2.1 bt288.2.2.2.2.1 bt288.2.2.2.2.2.1 bt288.2.2.2.2.2.2.1 bt288.2.2.2.2.2.2.2 bt296.1 bt296.2.1 bt296.2.2.1 bt296.2.2.2.1 bt296.2.2.2.2.1 bt296.2.2.2.2.2.1 bt296.2.2.2.2.2.2.1 bt296.2.2.2.2.2.2.2).bind fun t304 => (if t287 = t304 then ((wide_Sign.f k t208 t209).bind fun t305 => ((calamuslaw01_Two_ref.f a0_0 a0_1).bind fun bt306 => ((calamusref01_Sign.f bt306.1 bt306.2.1 bt306.2.2.1 bt306.2.2.2.1 bt306.2.2.2.2.1 bt306.2.2.2.2.2.1 bt306.2.2.2.2.2.2.1 bt306.2.2.2.2.2.2.2).bind fun t314 => (some (t305 == t314))))) else (none)))))) else (none)))))) else (none))))))) else (none)))))))) = some r := H
    have A5 := Aside0.mk A50
    clear A50
    replace H := Option.bind_eq_some_iff.mp H
    obtain ⟨⟨t210, t211⟩, A60, H⟩ := H
    replace H : ((wide_Add.f t208 t209 t210 t211).bind fun bt214 => ((calamuslaw01_Two_ref.f a0_0 a0_1).bind fun bt216 => ((calamuslaw01_Two_ref.f a1_0 a1_1).bind fun bt224 => ((calamusref01_Add.f bt216.1 bt216.2.1 bt216.2.2.1 bt216.2.2.2.1 bt216.2.2.2.2.1 bt216.2.2.2.2.2.1 bt216.2.2.2.2.2.2.1 bt216.2.2.2.2.2.2.2 bt224.1 bt224.2.1 bt224.2.2.1 bt224.2.2.2.1 bt224.2.2.2.2.1 bt224.2.2.2.2.2.1 bt224.2.2.2.2.2.2.1 bt224.2.2.2.2.2.2.2).bind fun bt232 => ((calamuslaw01_is.f bt214.1 bt214.2 bt232.1 bt232.2.1 bt232.2.2.1 bt232.2.2.2.1 bt232.2.2.2.2.1 bt232.2.2.2.2.2.1 bt232.2.2.2.2.2.2.1 bt232.2.2.2.2.2.2.2).bind fun t240 => (if t240 = true then ((wide_Sub.f t208 t209 t210 t211).bind fun bt241 => ((calamuslaw01_Two_ref.f a0_0 a0_1).bind fun bt243 => ((calamuslaw01_Two_ref.f a1_0 a1_1).bind fun bt251 => ((calamusref01_Sub.f bt243.1 bt243.2.1 bt243.2.2.1 bt243.2.2.2.1 bt243.2.2.2.2.1 bt243.2.2.2.2.2.1 bt243.2.2.2.2.2.2.1 bt243.2.2.2.2.2.2.2 bt251.1 bt251.2.1 bt251.2.2.1 bt251.2.2.2.1 bt251.2.2.2.2.1 bt251.2.2.2.2.2.1 bt251.2.2.2.2.2.2.1 bt251.2.2.2.2.2.2.2).bind fun bt259 => ((calamuslaw01_is.f bt241.1 bt241.2 bt259.1 bt259.2.1 bt259.2.2.1 bt259.2.2.2.1 bt259.2.2.2.2.1 bt259.2.2.2.2.2.1 bt259.2.2.2.2.2.2.1 bt259.2.2.2.2.2.2.2).bind fun t267 => (if t267 = true then ((wide_Neg.f t208 t209).bind fun bt268 => ((calamuslaw01_Two_ref.f a0_0 a0_1).bind fun bt270 => ((calamusref01_Neg.f bt270.1 bt270.2.1 bt270.2.2.1 bt270.2.2.2.1 bt270.2.2.2.2.1 bt270.2.2.2.2.2.1 bt270.2.2.2.2.2.2.1 bt270.2.2.2.2.2.2.2).bind fun bt278 => ((calamuslaw01_is.f bt268.1 bt268.2 bt278.1 bt278.2.1 bt278.2.2.1 bt278.2.2.2.1 bt278.2.2.2.2.1 bt278.2.2.2.2.2.1 bt278.2.2.2.2.2.2.1 bt278.2.2.2.2.2.2.2).bind fun t286 => (if t286 = true then ((wide_Cmp.f k t208 t209 t210 t211).bind fun t287 => ((calamuslaw01_Two_ref.f a0_0 a0_1).bind fun bt288 => ((calamuslaw01_Two_ref.f a1_0 a1_1).bind fun bt296 => ((calamusref01_Cmp.f bt288.1 bt288.2.1 bt288.2.2.1 bt288.2.2.2.1 bt288.2.2.2.2.1 bt288.2.2.2.2.2.1 bt288.2.2.2.2.2.2.1 bt288.2.2.2.2.2.2.2 bt296.1 bt296.2.1 bt296.2.2.1 bt296.2.2.2.1 bt296.2.2.2.2.1 bt296.2.2.2.2.2.1 bt296.2.2.2.2.2.2.1 bt296.2.2.2.2.2.2.2).bind fun t304 => (if t287 = t304 then ((wide_Sign.f k t208 t209).bind fun t305 => ((calamuslaw01_Two_ref.f a0_0 a0_1).bind fun bt306 => ((calamusref01_Sign.f bt306.1 bt306.2.1 bt306.2.2.1 bt306.2.2.2.1 bt306.2.2.2.2.1 bt306.2.2.2.2.2.1 bt306.2.2.2.2.2.2.1 bt306.2.2.2.2.2.2.2).bind fun t314 => (some (t305 == t314))))) else (none)))))) else (none)))))) else (none))))))) else (none))))))) = some r := H
    have A6 := Aside0.mk A60
    clear A60
    replace H := Option.bind_eq_some_iff.mp H
    obtain ⟨⟨t214, t215⟩, A70, H⟩ := H
    replace H : ((calamuslaw01_Two_ref.f a0_0 a0_1).bind fun bt216 => ((calamuslaw01_Two_ref.f a1_0 a1_1).bind fun bt224 => ((calamusref01_Add.f bt216.1 bt216.2.1 bt216.2.2.1 bt216.2.2.2.1 bt216.2.2.2.2.1 bt216.2.2.2.2.2.1 bt216.2.2.2.2.2.2.1 bt216.2.2.2.2.2.2.2 bt224.1 bt224.2.1 bt224.2.2.1 bt224.2.2.2.1 bt224.2.2.2.2.1 bt224.2.2.2.2.2.1 bt224.2.2.2.2.2.2.1 bt224.2.2.2.2.2.2.2).bind fun bt232 => ((calamuslaw01_is.f t214 t215 bt232.1 bt232.2.1 bt232.2.2.1 bt232.2.2.2.1 bt232.2.2.2.2.1 bt232.2.2.2.2.2.1 bt232.2.2.2.2.2.2.1 bt232.2.2.2.2.2.2.2).bind fun t240 => (if t240 = true then ((wide_Sub.f t208 t209 t210 t211).bind fun bt241 => ((calamuslaw01_Two_ref.f a0_0 a0_1).bind fun bt243 => ((calamuslaw01_Two_ref.f a1_0 a1_1).bind fun bt251 => ((calamusref01_Sub.f bt243.1 bt243.2.1 bt243.2.2.1 bt243.2.2.2.1 bt243.2.2.2.2.1 bt243.2.2.2.2.2.1 bt243.2.2.2.2.2.2.1 bt243.2.2.2.2.2.2.2 bt251.1 bt251.2.1 bt251.2.2.1 bt251.2.2.2.1 bt251.2.2.2.2.1 bt251.2.2.2.2.2.1 bt251.2.2.2.2.2.2.1 bt251.2.2.2.2.2.2.2).bind fun bt259 => ((calamuslaw01_is.f bt241.1 bt241.2 bt259.1 bt259.2.1 bt259.2.2.1 bt259.2.2.2.1 bt259.2.2.2.2.1 bt259.2.2.2.2.2.1 bt259.2.2.2.2.2.2.1 bt259.2.2.2.2.2.2.2).bind fun t267 => (if t267 = true then ((wide_Neg.f t208 t209).bind fun bt268 => ((calamuslaw01_Two_ref.f a0_0 a0_1).bind fun bt270 => ((calamusref01_Neg.f bt270.1 bt270.2.1 bt270.2.2.1 bt270.2.2.2.1 bt270.2.2.2.2.1 bt270.2.2.2.2.2.1 bt270.2.2.2.2.2.2.1 bt270.2.2.2.2.2.2.2).bind fun bt278 => ((calamuslaw01_is.f bt268.1 bt268.2 bt278.1 bt278.2.1 bt278.2.2.1 bt278.2.2.2.1 bt278.2.2.2.2.1 bt278.2.2.2.2.2.1 bt278.2.2.2.2.2.2.1 bt278.2.2.2.2.2.2.2).bind fun t286 => (if t286 = true then ((wide_Cmp.f k t208 t209 t210 t211).bind fun t287 => ((calamuslaw01_Two_ref.f a0_0 a0_1).bind fun bt288 => ((calamuslaw01_Two_ref.f a1_0 a1_1).bind fun bt296 => ((calamusref01_Cmp.f bt288.1 bt288.2.1 bt288.2.2.1 bt288.2.2.2.1 bt288.2.2.2.2.1 bt288.2.2.2.2.2.1 bt288.2.2.2.2.2.2.1 bt288.2.2.2.2.2.2.2 bt296.1 bt296.2.1 bt296.2.2.1 bt296.2.2.2.1 bt296.2.2.2.2.1 bt296.2.2.2.2.2.1 bt296.2.2.2.2.2.2.1 bt296.2.2.2.2.2.2.2).bind fun t304 => (if t287 = t304 then ((wide_Sign.f k t208 t209).bind fun t305 => ((calamuslaw01_Two_ref.f a0_0 a0_1).bind fun bt306 => ((calamusref01_Sign.f bt306.1 bt306.2.1 bt306.2.2.1 bt306.2.2.2.1 bt306.2.2.2.2.1 bt306.2.2.2.2.2.1 bt306.2.2.2.2.2.2.1 bt306.2.2.2.2.2.2.2).bind fun t314 => (some (t305 == t314))))) else (none)))))) else (none)))))) else (none))))))) else (none)))))) = some r := H
    have A7 := Aside0.mk A70
    clear A70
    replace H := Option.bind_eq_some_iff.mp H
    obtain ⟨⟨t216, t217, t218, t219, t220, t221, t222, t223⟩, A80, H⟩ := H
    replace H : ((calamuslaw01_Two_ref.f a1_0 a1_1).bind fun bt224 => ((calamusref01_Add.f t216 t217 t218 t219 t220 t221 t222 t223 bt224.1 bt224.2.1 bt224.2.2.1 bt224.2.2.2.1 bt224.2.2.2.2.1 bt224.2.2.2.2.2.1 bt224.2.2.2.2.2.2.1 bt224.2.2.2.2.2.2.2).bind fun bt232 => ((calamuslaw01_is.f t214 t215 bt232.1 bt232.2.1 bt232.2.2.1 bt232.2.2.2.1 bt232.2.2.2.2.1 bt232.2.2.2.2.2.1 bt232.2.2.2.2.2.2.1 bt232.2.2.2.2.2.2.2).bind fun t240 => (if t240 = true then ((wide_Sub.f t208 t209 t210 t211).bind fun bt241 => ((calamuslaw01_Two_ref.f a0_0 a0_1).bind fun bt243 => ((calamuslaw01_Two_ref.f a1_0 a1_1).bind fun bt251 => ((calamusref01_Sub.f bt243.1 bt243.2.1 bt243.2.2.1 bt243.2.2.2.1 bt243.2.2.2.2.1 bt243.2.2.2.2.2.1 bt243.2.2.2.2.2.2.1 bt243.2.2.2.2.2.2.2 bt251.1 bt251.2.1 bt251.2.2.1 bt251.2.2.2.1 bt251.2.2.2.2.1 bt251.2.2.2.2.2.1 bt251.2.2.2.2.2.2.1 bt251.2.2.2.2.2.2.2).bind fun bt259 => ((calamuslaw01_is.f bt241.1 bt241.2 bt259.1 bt259.2.1 bt259.2.2.1 bt259.2.2.2.1 bt259.2.2.2.2.1 bt259.2.2.2.2.2.1 bt259.2.2.2.2.2.2.1 bt259.2.2.2.2.2.2.2).bind fun t267 => (if t267 = true then ((wide_Neg.f t208 t209).bind fun bt268 => ((calamuslaw01_Two_ref.f a0_0 a0_1).bind fun bt270 => ((calamusref01_Neg.f bt270.1 bt270.2.1 bt270.2.2.1 bt270.2.2.2.1 bt270.2.2.2.2.1 bt270.2.2.2.2.2.1 bt270.2.2.2.2.2.2.1 bt270.2.2.2.2.2.2.2).bind fun bt278 => ((calamuslaw01_is.f bt268.1 bt268.2 bt278.1 bt278.2.1 bt278.2.2.1 bt278.2.2.2.1 bt278.2.2.2.2.1 bt278.2.2.2.2.2.1 bt278.2.2.2.2.2.2.1 bt278.2.2.2.2.2.2.2).bind fun t286 => (if t286 = true then ((wide_Cmp.f k t208 t209 t210 t211).bind fun t287 => ((calamuslaw01_Two_ref.f a0_0 a0_1).bind fun bt288 => ((calamuslaw01_Two_ref.f a1_0 a1_1).bind fun bt296 => ((calamusref01_Cmp.f bt288.1 bt288.2.1 bt288.2.2.1 bt288.2.2.2.1 bt288.2.2.2.2.1 bt288.2.2.2.2.2.1 bt288.2.2.2.2.2.2.1 bt288.2.2.2.2.2.2.2 bt296.1 bt296.2.1 bt296.2.2.1 bt296.2.2.2.1 bt296.2.2.2.2.1 bt296.2.2.2.2.2.1 bt296.2.2.2.2.2.2.1 bt296.2.2.2.2.2.2.2).bind fun t304 => (if t287 = t304 then ((wide_Sign.f k t208 t209).bind fun t305 => ((calamuslaw01_Two_ref.f a0_0 a0_1).bind fun bt306 => ((calamusref01_Sign.f bt306.1 bt306.2.1 bt306.2.2.1 bt306.2.2.2.1 bt306.2.2.2.2.1 bt306.2.2.2.2.2.1 bt306.2.2.2.2.2.2.1 bt306.2.2.2.2.2.2.2).bind fun t314 => (some (t305 == t314))))) else (none)))))) else (none)))))) else (none))))))) else (none))))) = some r := H
    have A8 := Aside0.mk A80
    clear A80
    replace H := Option.bind_eq_some_iff.mp H
    obtain ⟨⟨t224, t225, t226, t227, t228, t229, t230, t231⟩, A90, H⟩ := H
    replace H : ((calamusref01_Add.f t216 t217 t218 t219 t220 t221 t222 t223 t224 t225 t226 t227 t228 t229 t230 t231).bind fun bt232 => ((calamuslaw01_is.f t214 t215 bt232.1 bt232.2.1 bt232.2.2.1 bt232.2.2.2.1 bt232.2.2.2.2.1 bt232.2.2.2.2.2.1 bt232.2.2.2.2.2.2.1 bt232.2.2.2.2.2.2.2).bind fun t240 => (if t240 = true then ((wide_Sub.f t208 t209 t210 t211).bind fun bt241 => ((calamuslaw01_Two_ref.f a0_0 a0_1).bind fun bt243 => ((calamuslaw01_Two_ref.f a1_0 a1_1).bind fun bt251 => ((calamusref01_Sub.f bt243.1 bt243.2.1 bt243.2.2.1 bt243.2.2.2.1 bt243.2.2.2.2.1 bt243.2.2.2.2.2.1 bt243.2.2.2.2.2.2.1 bt243.2.2.2.2.2.2.2 bt251.1 bt251.2.1 bt251.2.2.1 bt251.2.2.2.1 bt251.2.2.2.2.1 bt251.2.2.2.2.2.1 bt251.2.2.2.2.2.2.1 bt251.2.2.2.2.2.2.2).bind fun bt259 => ((calamuslaw01_is.f bt241.1 bt241.2 bt259.1 bt259.2.1 bt259.2.2.1 bt259.2.2.2.1 bt259.2.2.2.2.1 bt259.2.2.2.2.2.1 bt259.2.2.2.2.2.2.1 bt259.2.2.2.2.2.2.2).bind fun t267 => (if t267 = true then ((wide_Neg.f t208 t209).bind fun bt268 => ((calamuslaw01_Two_ref.f a0_0 a0_1).bind fun bt270 => ((calamusref01_Neg.f bt270.1 bt270.2.1 bt270.2.2.1 bt270.2.2.2.1 bt270.2.2.2.2.1 bt270.2.2.2.2.2.1 bt270.2.2.2.2.2.2.1 bt270.2.2.2.2.2.2.2).bind fun bt278 => ((calamuslaw01_is.f bt268.1 bt268.2 bt278.1 bt278.2.1 bt278.2.2.1 bt278.2.2.2.1 bt278.2.2.2.2.1 bt278.2.2.2.2.2.1 bt278.2.2.2.2.2.2.1 bt278.2.2.2.2.2.2.2).bind fun t286 => (if t286 = true then ((wide_Cmp.f k t208 t209 t210 t211).bind fun t287 => ((calamuslaw01_Two_ref.f a0_0 a0_1).bind fun bt288 => ((calamuslaw01_Two_ref.f a1_0 a1_1).bind fun bt296 => ((calamusref01_Cmp.f bt288.1 bt288.2.1 bt288.2.2.1 bt288.2.2.2.1 bt288.2.2.2.2.1 bt288.2.2.2.2.2.1 bt288.2.2.2.2.2.2.1 bt288.2.2.2.2.2.2.2 bt296.1 bt296.2.1 bt296.2.2.1 bt296.2.2.2.1 bt296.2.2.2.2.1 bt296.2.2.2.2.2.1 bt296.2.2.2.2.2.2.1 bt296.2.2.2.2.2.2.2).bind fun t304 => (if t287 = t304 then ((wide_Sign.f k t208 t209).bind fun t305 => ((calamuslaw01_Two_ref.f a0_0 a0_1).bind fun bt306 => ((calamusref01_Sign.f bt306.1 bt306.2.1 bt306.2.2.1 bt306.2.2.2.1 bt306.2.2.2.2.1 bt306.2.2.2.2.2.1 bt306.2.2.2.2.2.2.1 bt306.2.2.2.2.2.2.2).bind fun t314 => (some (t305 == t314))))) else (none)))))) else (none)))))) else (none))))))) else (none)))) = some r := H
    have A9 := Aside0.mk A90
    clear A90
    replace H := Option.bind_eq_some_iff.mp H
    obtain ⟨⟨t232, t233, t234, t235, t236, t237, t238, t239⟩, A100, H⟩ := H
    replace H : ((calamuslaw01_is.f t214 t215 t232 t233 t234 t235 t236 t237 t238 t239).bind fun t240 => (if t240 = true then ((wide_Sub.f t208 t209 t210 t211).bind fun bt241 => ((calamuslaw01_Two_ref.f a0_0 a0_1).bind fun bt243 => ((calamuslaw01_Two_ref.f a1_0 a1_1).bind fun bt251 => ((calamusref01_Sub.f bt243.1 bt243.2.1 bt243.2.2.1 bt243.2.2.2.1 bt243.2.2.2.2.1 bt243.2.2.2.2.2.1 bt243.2.2.2.2.2.2.1 bt243.2.2.2.2.2.2.2 bt251.1 bt251.2.1 bt251.2.2.1 bt251.2.2.2.1 bt251.2.2.2.2.1 bt251.2.2.2.2.2.1 bt251.2.2.2.2.2.2.1 bt251.2.2.2.2.2.2.2).bind fun bt259 => ((calamuslaw01_is.f bt241.1 bt241.2 bt259.1 bt259.2.1 bt259.2.2.1 bt259.2.2.2.1 bt259.2.2.2.2.1 bt259.2.2.2.2.2.1 bt259.2.2.2.2.2.2.1 bt259.2.2.2.2.2.2.2).bind fun t267 => (if t267 = true then ((wide_Neg.f t208 t209).bind fun bt268 => ((calamuslaw01_Two_ref.f a0_0 a0_1).bind fun bt270 => ((calamusref01_Neg.f bt270.1 bt270.2.1 bt270.2.2.1 bt270.2.2.2.1 bt270.2.2.2.2.1 bt270.2.2.2.2.2.1 bt270.2.2.2.2.2.2.1 bt270.2.2.2.2.2.2.2).bind fun bt278 => ((calamuslaw01_is.f bt268.1 bt268.2 bt278.1 bt278.2.1 bt278.2.2.1 bt278.2.2.2.1 bt278.2.2.2.2.1 bt278.2.2.2.2.2.1 bt278.2.2.2.2.2.2.1 bt278.2.2.2.2.2.2.2).bind fun t286 => (if t286 = true then ((wide_Cmp.f k t208 t209 t210 t211).bind fun t287 => ((calamuslaw01_Two_ref.f a0_0 a0_1).bind fun bt288 => ((calamuslaw01_Two_ref.f a1_0 a1_1).bind fun bt296 => ((calamusref01_Cmp.f bt288.1 bt288.2.1 bt288.2.2.1 bt288.2.2.2.1 bt288.2.2.2.2.1 bt288.2.2.2.2.2.1 bt288.2.2.2.2.2.2.1 bt288.2.2.2.2.2.2.2 bt296.1 bt296.2.1 bt296.2.2.1 bt296.2.2.2.1 bt296.2.2.2.2.1 bt296.2.2.2.2.2.1 bt296.2.2.2.2.2.2.1 bt296.2.2.2.2.2.2.2).bind fun t304 => (if t287 = t304 then ((wide_Sign.f k t208 t209).bind fun t305 => ((calamuslaw01_Two_ref.f a0_0 a0_1).bind fun bt306 => ((calamusref01_Sign.f bt306.1 bt306.2.1 bt306.2.2.1 bt306.2.2.2.1 bt306.2.2.2.2.1 bt306.2.2.2.2.2.1 bt306.2.2.2.2.2.2.1 bt306.2.2.2.2.2.2.2).bind fun t314 => (some (t305 == t314))))) else (none)))))) else (none)))))) else (none))))))) else (none))) = some r := H
    have A10 := Aside0.mk A100
    clear A100
    replace H := Option.bind_eq_some_iff.mp H
    obtain ⟨t240, A110, H⟩ := H
    replace H : (if t240 = true then ((wide_Sub.f t208 t209 t210 t211).bind fun bt241 => ((calamuslaw01_Two_ref.f a0_0 a0_1).bind fun bt243 => ((calamuslaw01_Two_ref.f a1_0 a1_1).bind fun bt251 => ((calamusref01_Sub.f bt243.1 bt243.2.1 bt243.2.2.1 bt243.2.2.2.1 bt243.2.2.2.2.1 bt243.2.2.2.2.2.1 bt243.2.2.2.2.2.2.1 bt243.2.2.2.2.2.2.2 bt251.1 bt251.2.1 bt251.2.2.1 bt251.2.2.2.1 bt251.2.2.2.2.1 bt251.2.2.2.2.2.1 bt251.2.2.2.2.2.2.1 bt251.2.2.2.2.2.2.2).bind fun bt259 => ((calamuslaw01_is.f bt241.1 bt241.2 bt259.1 bt259.2.1 bt259.2.2.1 bt259.2.2.2.1 bt259.2.2.2.2.1 bt259.2.2.2.2.2.1 bt259.2.2.2.2.2.2.1 bt259.2.2.2.2.2.2.2).bind fun t267 => (if t267 = true then ((wide_Neg.f t208 t209).bind fun bt268 => ((calamuslaw01_Two_ref.f a0_0 a0_1).bind fun bt270 => ((calamusref01_Neg.f bt270.1 bt270.2.1 bt270.2.2.1 bt270.2.2.2.1 bt270.2.2.2.2.1 bt270.2.2.2.2.2.1 bt270.2.2.2.2.2.2.1 bt270.2.2.2.2.2.2.2).bind fun bt278 => ((calamuslaw01_is.f bt268.1 bt268.2 bt278.1 bt278.2.1 bt278.2.2.1 bt278.2.2.2.1 bt278.2.2.2.2.1 bt278.2.2.2.2.2.1 bt278.2.2.2.2.2.2.1 bt278.2.2.2.2.2.2.2).bind fun t286 => (if t286 = true then ((wide_Cmp.f k t208 t209 t210 t211).bind fun t287 => ((calamuslaw01_Two_ref.f a0_0 a0_1).bind fun bt288 => ((calamuslaw01_Two_ref.f a1_0 a1_1).bind fun bt296 => ((calamusref01_Cmp.f bt288.1 bt288.2.1 bt288.2.2.1 bt288.2.2.2.1 bt288.2.2.2.2.1 bt288.2.2.2.2.2.1 bt288.2.2.2.2.2.2.1 bt288.2.2.2.2.2.2.2 bt296.1 bt296.2.1 bt296.2.2.1 bt296.2.2.2.1 bt296.2.2.2.2.1 bt296.2.2.2.2.2.1 bt296.2.2.2.2.2.2.1 bt296.2.2.2.2.2.2.2).bind fun t304 => (if t287 = t304 then ((wide_Sign.f k t208 t209).bind fun t305 => ((calamuslaw01_Two_ref.f a0_0 a0_1).bind fun bt306 => ((calamusref01_Sign.f bt306.1 bt306.2.1 bt306.2.2.1 bt306.2.2.2.1 bt306.2.2.2.2.1 bt306.2.2.2.2.2.1 bt306.2.2.2.2.2.2.1 bt306.2.2.2.2.2.2.2).bind fun t314 => (some (t305 == t314))))) else (none)))))) else (none)))))) else (none))))))) else (none)) = some r := H
    have A11 := Aside0.mk A110
    clear A110
    by_cases c12 : t240 = true
    · subst c12
      have H1 : ((wide_Sub.f t208 t209 t210 t211).bind fun bt241 => ((calamuslaw01_Two_ref.f a0_0 a0_1).bind fun bt243 => ((calamuslaw01_Two_ref.f a1_0 a1_1).bind fun bt251 => ((calamusref01_Sub.f bt243.1 bt243.2.1 bt243.2.2.1 bt243.2.2.2.1 bt243.2.2.2.2.1 bt243.2.2.2.2.2.1 bt243.2.2.2.2.2.2.1 bt243.2.2.2.2.2.2.2 bt251.1 bt251.2.1 bt251.2.2.1 bt251.2.2.2.1 bt251.2.2.2.2.1 bt251.2.2.2.2.2.1 bt251.2.2.2.2.2.2.1 bt251.2.2.2.2.2.2.2).bind fun bt259 => ((calamuslaw01_is.f bt241.1 bt241.2 bt259.1 bt259.2.1 bt259.2.2.1 bt259.2.2.2.1 bt259.2.2.2.2.1 bt259.2.2.2.2.2.1 bt259.2.2.2.2.2.2.1 bt259.2.2.2.2.2.2.2).bind fun t267 => (if t267 = true then ((wide_Neg.f t208 t209).bind fun bt268 => ((calamuslaw01_Two_ref.f a0_0 a0_1).bind fun bt270 => ((calamusref01_Neg.f bt270.1 bt270.2.1 bt270.2.2.1 bt270.2.2.2.1 bt270.2.2.2.2.1 bt270.2.2.2.2.2.1 bt270.2.2.2.2.2.2.1 bt270.2.2.2.2.2.2.2).bind fun bt278 => ((calamuslaw01_is.f bt268.1 bt268.2 bt278.1 bt278.2.1 bt278.2.2.1 bt278.2.2.2.1 bt278.2.2.2.2.1 bt278.2.2.2.2.2.1 bt278.2.2.2.2.2.2.1 bt278.2.2.2.2.2.2.2).bind fun t286 => (if t286 = true then ((wide_Cmp.f k t208 t209 t210 t211).bind fun t287 => ((calamuslaw01_Two_ref.f a0_0 a0_1).bind fun bt288 => ((calamuslaw01_Two_ref.f a1_0 a1_1).bind fun bt296 => ((calamusref01_Cmp.f bt288.1 bt288.2.1 bt288.2.2.1 bt288.2.2.2.1 bt288.2.2.2.2.1 bt288.2.2.2.2.2.1 bt288.2.2.2.2.2.2.1 bt288.2.2.2.2.2.2.2 bt296.1 bt296.2.1 bt296.2.2.1 bt296.2.2.2.1 bt296.2.2.2.2.1 bt296.2.2.2.2.2.1 bt296.2.2.2.2.2.2.1 bt296.2.2.2.2.2.2.2).bind fun t304 => (if t287 = t304 then ((wide_Sign.f k t208 t209).bind fun t305 => ((calamuslaw01_Two_ref.f a0_0 a0_1).bind fun bt306 => ((calamusref01_Sign.f bt306.1 bt306.2.1 bt306.2.2.1 bt306.2.2.2.1 bt306.2.2.2.2.1 bt306.2.2.2.2.2.1 bt306.2.2.2.2.2.2.1 bt306.2.2.2.2.2.2.2).bind fun t314 => (some (t305 == t314))))) else (none)))))) else (none)))))) else (none))))))) = some r := by rw [if_pos rfl] at H; exact H
      clear H
      have H := H1
      clear H1
      replace H := Option.bind_eq_some_iff.mp H
      obtain ⟨⟨t241, t242⟩, A130, H⟩ := H
      replace H : ((calamuslaw01_Two_ref.f a0_0 a0_1).bind fun bt243 => ((calamuslaw01_Two_ref.f a1_0 a1_1).bind fun bt251 => ((calamusref01_Sub.f bt243.1 bt243.2.1 bt243.2.2.1 bt243.2.2.2.1 bt243.2.2.2.2.1 bt243.2.2.2.2.2.1 bt243.2.2.2.2.2.2.1 bt243.2.2.2.2.2.2.2 bt251.1 bt251.2.1 bt251.2.2.1 bt251.2.2.2.1 bt251.2.2.2.2.1 bt251.2.2.2.2.2.1 bt251.2.2.2.2.2.2.1 bt251.2.2.2.2.2.2.2).bind fun bt259 => ((calamuslaw01_is.f t241 t242 bt259.1 bt259.2.1 bt259.2.2.1 bt259.2.2.2.1 bt259.2.2.2.2.1 bt259.2.2.2.2.2.1 bt259.2.2.2.2.2.2.1 bt259.2.2.2.2.2.2.2).bind fun t267 => (if t267 = true then ((wide_Neg.f t208 t209).bind fun bt268 => ((calamuslaw01_Two_ref.f a0_0 a0_1).bind fun bt270 => ((calamusref01_Neg.f bt270.1 bt270.2.1 bt270.2.2.1 bt270.2.2.2.1 bt270.2.2.2.2.1 bt270.2.2.2.2.2.1 bt270.2.2.2.2.2.2.1 bt270.2.2.2.2.2.2.2).bind fun bt278 => ((calamuslaw01_is.f bt268.1 bt268.2 bt278.1 bt278.2.1 bt278.2.2.1 bt278.2.2.2.1 bt278.2.2.2.2.1 bt278.2.2.2.2.2.1 bt278.2.2.2.2.2.2.1 bt278.2.2.2.2.2.2.2).bind fun t286 => (if t286 = true then ((wide_Cmp.f k t208 t209 t210 t211).bind fun t287 => ((calamuslaw01_Two_ref.f a0_0 a0_1).bind fun bt288 => ((calamuslaw01_Two_ref.f a1_0 a1_1).bind fun bt296 => ((calamusref01_Cmp.f bt288.1 bt288.2.1 bt288.2.2.1 bt288.2.2.2.1 bt288.2.2.2.2.1 bt288.2.2.2.2.2.1 bt288.2.2.2.2.2.2.1 bt288.2.2.2.2.2.2.2 bt296.1 bt296.2.1 bt296.2.2.1 bt296.2.2.2.1 bt296.2.2.2.2.1 bt296.2.2.2.2.2.1 bt296.2.2.2.2.2.2.1 bt296.2.2.2.2.2.2.2).bind fun t304 => (if t287 = t304 then ((wide_Sign.f k t208 t209).bind fun t305 => ((calamuslaw01_Two_ref.f a0_0 a0_1).bind fun bt306 => ((calamusref01_Sign.f bt306.1 bt306.2.1 bt306.2.2.1 bt306.2.2.2.1 bt306.2.2.2.2.1 bt306.2.2.2.2.2.1 bt306.2.2.2.2.2.2.1 bt306.2.2.2.2.2.2.2).bind fun t314 => (some (t305 == t314))))) else (none)))))) else (none)))))) else (none)))))) = some r := H
      have A13 := Aside0.mk A130
      clear A130
      replace H := Option.bind_eq_some_iff.mp H
      obtain ⟨⟨t243, t244, t245, t246, t247, t248, t249, t250⟩, A140, H⟩ := H
      replace H : ((calamuslaw01_Two_ref.f a1_0 a1_1).bind fun bt251 => ((calamusref01_Sub.f t243 t244 t245 t246 t247 t248 t249 t250 bt251.1 bt251.2.1 bt251.2.2.1 bt251.2.2.2.1 bt251.2.2.2.2.1 bt251.2.2.2.2.2.1 bt251.2.2.2.2.2.2.1 bt251.2.2.2.2.2.2.2).bind fun bt259 => ((calamuslaw01_is.f t241 t242 bt259.1 bt259.2.1 bt259.2.2.1 bt259.2.2.2.1 bt259.2.2.2.2.1 bt259.2.2.2.2.2.1 bt259.2.2.2.2.2.2.1 bt259.2.2.2.2.2.2.2).bind fun t267 => (if t267 = true then ((wide_Neg.f t208 t209).bind fun bt268 => ((calamuslaw01_Two_ref.f a0_0 a0_1).bind fun bt270 => ((calamusref01_Neg.f bt270.1 bt270.2.1 bt270.2.2.1 bt270.2.2.2.1 bt270.2.2.2.2.1 bt270.2.2.2.2.2.1 bt270.2.2.2.2.2.2.1 bt270.2.2.2.2.2.2.2).bind fun bt278 => ((calamuslaw01_is.f bt268.1 bt268.2 bt278.1 bt278.2.1 bt278.2.2.1 bt278.2.2.2.1 bt278.2.2.2.2.1 bt278.2.2.2.2.2.1 bt278.2.2.2.2.2.2.1 bt278.2.2.2.2.2.2.2).bind fun t286 => (if t286 = true then ((wide_Cmp.f k t208 t209 t210 t211).bind fun t287 => ((calamuslaw01_Two_ref.f a0_0 a0_1).bind fun bt288 => ((calamuslaw01_Two_ref.f a1_0 a1_1).bind fun bt296 => ((calamusref01_Cmp.f bt288.1 bt288.2.1 bt288.2.2.1 bt288.2.2.2.1 bt288.2.2.2.2.1 bt288.2.2.2.2.2.1 bt288.2.2.2.2.2.2.1 bt288.2.2.2.2.2.2.2 bt296.1 bt296.2.1 bt296.2.2.1 bt296.2.2.2.1 bt296.2.2.2.2.1 bt296.2.2.2.2.2.1 bt296.2.2.2.2.2.2.1 bt296.2.2.2.2.2.2.2).bind fun t304 => (if t287 = t304 then ((wide_Sign.f k t208 t209).bind fun t305 => ((calamuslaw01_Two_ref.f a0_0 a0_1).bind fun bt306 => ((calamusref01_Sign.f bt306.1 bt306.2.1 bt306.2.2.1 bt306.2.2.2.1 bt306.2.2.2.2.1 bt306.2.2.2.2.2.1 bt306.2.2.2.2.2.2.1 bt306.2.2.2.2.2.2.2).bind fun t314 => (some (t305 == t314))))) else (none)))))) else (none)))))) else (none))))) = some r := H
      have A14 := Aside0.mk A140
      clear A140
      replace H := Option.bind_eq_some_iff.mp H
      obtain ⟨⟨t251, t252, t253, t254, t255, t256, t257, t258⟩, A150, H⟩ := H
      replace H : ((calamusref01_Sub.f t243 t244 t245 t246 t247 t248 t249 t250 t251 t252 t253 t254 t255 t256 t257 t258).bind fun bt259 => ((calamuslaw01_is.f t241 t242 bt259.1 bt259.2.1 bt259.2.2.1 bt259.2.2.2.1 bt259.2.2.2.2.1 bt259.2.2.2.2.2.1 bt259.2.2.2.2.2.2.1 bt259.2.2.2.2.2.2.2).bind fun t267 => (if t267 = true then ((wide_Neg.f t208 t209).bind fun bt268 => ((calamuslaw01_Two_ref.f a0_0 a0_1).bind fun bt270 => ((calamusref01_Neg.f bt270.1 bt270.2.1 bt270.2.2.1 bt270.2.2.2.1 bt270.2.2.2.2.1 bt270.2.2.2.2.2.1 bt270.2.2.2.2.2.2.1 bt270.2.2.2.2.2.2.2).bind fun bt278 => ((calamuslaw01_is.f bt268.1 bt268.2 bt278.1 bt278.2.1 bt278.2.2.1 bt278.2.2.2.1 bt278.2.2.2.2.1 bt278.2.2.2.2.2.1 bt278.2.2.2.2.2.2.1 bt278.2.2.2.2.2.2.2).bind fun t286 => (if t286 = true then ((wide_Cmp.f k t208 t209 t210 t211).bind fun t287 => ((calamuslaw01_Two_ref.f a0_0 a0_1).bind fun bt288 => ((calamuslaw01_Two_ref.f a1_0 a1_1).bind fun bt296 => ((calamusref01_Cmp.f bt288.1 bt288.2.1 bt288.2.2.1 bt288.2.2.2.1 bt288.2.2.2.2.1 bt288.2.2.2.2.2.1 bt288.2.2.2.2.2.2.1 bt288.2.2.2.2.2.2.2 bt296.1 bt296.2.1 bt296.2.2.1 bt296.2.2.2.1 bt296.2.2.2.2.1 bt296.2.2.2.2.2.1 bt296.2.2.2.2.2.2.1 bt296.2.2.2.2.2.2.2).bind fun t304 => (if t287 = t304 then ((wide_Sign.f k t208 t209).bind fun t305 => ((calamuslaw01_Two_ref.f a0_0 a0_1).bind fun bt306 => ((calamusref01_Sign.f bt306.1 bt306.2.1 bt306.2.2.1 bt306.2.2.2.1 bt306.2.2.2.2.1 bt306.2.2.2.2.2.1 bt306.2.2.2.2.2.2.1 bt306.2.2.2.2.2.2.2).bind fun t314 => (some (t305 == t314))))) else (none)))))) else (none)))))) else (none)))) = some r := H
      have A15 := Aside0.mk A150
      clear A150
      replace H := Option.bind_eq_some_iff.mp H
      obtain ⟨⟨t259, t260, t261, t262, t263, t264, t265, t266⟩, A160, H⟩ := H
      replace H : ((calamuslaw01_is.f t241 t242 t259 t260 t261 t262 t263 t264 t265 t266).bind fun t267 => (if t267 = true then ((wide_Neg.f t208 t209).bind fun bt268 => ((calamuslaw01_Two_ref.f a0_0 a0_1).bind fun bt270 => ((calamusref01_Neg.f bt270.1 bt270.2.1 bt270.2.2.1 bt270.2.2.2.1 bt270.2.2.2.2.1 bt270.2.2.2.2.2.1 bt270.2.2.2.2.2.2.1 bt270.2.2.2.2.2.2.2).bind fun bt278 => ((calamuslaw01_is.f bt268.1 bt268.2 bt278.1 bt278.2.1 bt278.2.2.1 bt278.2.2.2.1 bt278.2.2.2.2.1 bt278.2.2.2.2.2.1 bt278.2.2.2.2.2.2.1 bt278.2.2.2.2.2.2.2).bind fun t286 => (if t286 = true then ((wide_Cmp.f k t208 t209 t210 t211).bind fun t287 => ((calamuslaw01_Two_ref.f a0_0 a0_1).bind fun bt288 => ((calamuslaw01_Two_ref.f a1_0 a1_1).bind fun bt296 => ((calamusref01_Cmp.f bt288.1 bt288.2.1 bt288.2.2.1 bt288.2.2.2.1 bt288.2.2.2.2.1 bt288.2.2.2.2.2.1 bt288.2.2.2.2.2.2.1 bt288.2.2.2.2.2.2.2 bt296.1 bt296.2.1 bt296.2.2.1 bt296.2.2.2.1 bt296.2.2.2.2.1 bt296.2.2.2.2.2.1 bt296.2.2.2.2.2.2.1 bt296.2.2.2.2.2.2.2).bind fun t304 => (if t287 = t304 then ((wide_Sign.f k t208 t209).bind fun t305 => ((calamuslaw01_Two_ref.f a0_0 a0_1).bind fun bt306 => ((calamusref01_Sign.f bt306.1 bt306.2.1 bt306.2.2.1 bt306.2.2.2.1 bt306.2.2.2.2.1 bt306.2.2.2.2.2.1 bt306.2.2.2.2.2.2.1 bt306.2.2.2.2.2.2.2).bind fun t314 => (some (t305 == t314))))) else (none)))))) else (none)))))) else (none))) = some r := H
      have A16 := Aside0.mk A160
      clear A160
      replace H := Option.bind_eq_some_iff.mp H
      obtain ⟨t267, A170, H⟩ := H
      replace H : (if t267 = true then ((wide_Neg.f t208 t209).bind fun bt268 => ((calamuslaw01_Two_ref.f a0_0 a0_1).bind fun bt270 => ((calamusref01_Neg.f bt270.1 bt270.2.1 bt270.2.2.1 bt270.2.2.2.1 bt270.2.2.2.2.1 bt270.2.2.2.2.2.1 bt270.2.2.2.2.2.2.1 bt270.2.2.2.2.2.2.2).bind fun bt278 => ((calamuslaw01_is.f bt268.1 bt268.2 bt278.1 bt278.2.1 bt278.2.2.1 bt278.2.2.2.1 bt278.2.2.2.2.1 bt278.2.2.2.2.2.1 bt278.2.2.2.2.2.2.1 bt278.2.2.2.2.2.2.2).bind fun t286 => (if t286 = true then ((wide_Cmp.f k t208 t209 t210 t211).bind fun t287 => ((calamuslaw01_Two_ref.f a0_0 a0_1).bind fun bt288 => ((calamuslaw01_Two_ref.f a1_0 a1_1).bind fun bt296 => ((calamusref01_Cmp.f bt288.1 bt288.2.1 bt288.2.2.1 bt288.2.2.2.1 bt288.2.2.2.2.1 bt288.2.2.2.2.2.1 bt288.2.2.2.2.2.2.1 bt288.2.2.2.2.2.2.2 bt296.1 bt296.2.1 bt296.2.2.1 bt296.2.2.2.1 bt296.2.2.2.2.1 bt296.2.2.2.2.2.1 bt296.2.2.2.2.2.2.1 bt296.2.2.2.2.2.2.2).bind fun t304 => (if t287 = t304 then ((wide_Sign.f k t208 t209).bind fun t305 => ((calamuslaw01_Two_ref.f a0_0 a0_1).bind fun bt306 => ((calamusref01_Sign.f bt306.1 bt306.2.1 bt306.2.2.1 bt306.2.2.2.1 bt306.2.2.2.2.1 bt306.2.2.2.2.2.1 bt306.2.2.2.2.2.2.1 bt306.2.2.2.2.2.2.2).bind fun t314 => (some (t305 == t314))))) else (none)))))) else (none)))))) else (none)) = some r := H
      have A17 := Aside0.mk A170
      clear A170
      by_cases c18 : t267 = true
      · subst c18
        have H1 : ((wide_Neg.f t208 t209).bind fun bt268 => ((calamuslaw01_Two_ref.f a0_0 a0_1).bind fun bt270 => ((calamusref01_Neg.f bt270.1 bt270.2.1 bt270.2.2.1 bt270.2.2.2.1 bt270.2.2.2.2.1 bt270.2.2.2.2.2.1 bt270.2.2.2.2.2.2.1 bt270.2.2.2.2.2.2.2).bind fun bt278 => ((calamuslaw01_is.f bt268.1 bt268.2 bt278.1 bt278.2.1 bt278.2.2.1 bt278.2.2.2.1 bt278.2.2.2.2.1 bt278.2.2.2.2.2.1 bt278.2.2.2.2.2.2.1 bt278.2.2.2.2.2.2.2).bind fun t286 => (if t286 = true then ((wide_Cmp.f k t208 t209 t210 t211).bind fun t287 => ((calamuslaw01_Two_ref.f a0_0 a0_1).bind fun bt288 => ((calamuslaw01_Two_ref.f a1_0 a1_1).bind fun bt296 => ((calamusref01_Cmp.f bt288.1 bt288.2.1 bt288.2.2.1 bt288.2.2.2.1 bt288.2.2.2.2.1 bt288.2.2.2.2.2.1 bt288.2.2.2.2.2.2.1 bt288.2.2.2.2.2.2.2 bt296.1 bt296.2.1 bt296.2.2.1 bt296.2.2.2.1 bt296.2.2.2.2.1 bt296.2.2.2.2.2.1 bt296.2.2.2.2.2.2.1 bt296.2.2.2.2.2.2.2).bind fun t304 => (if t287 = t304 then ((wide_Sign.f k t208 t209).bind fun t305 => ((calamuslaw01_Two_ref.f a0_0 a0_1).bind fun bt306 => ((calamusref01_Sign.f bt306.1 bt306.2.1 bt306.2.2.1 bt306.2.2.2.1 bt306.2.2.2.2.1 bt306.2.2.2.2.2.1 bt306.2.2.2.2.2.2.1 bt306.2.2.2.2.2.2.2).bind fun t314 => (some (t305 == t314))))) else (none)))))) else (none)))))) = some r := by rw [if_pos rfl] at H; exact H
        clear H
        have H := H1
        clear H1
        replace H := Option.bind_eq_some_iff.mp H
        obtain ⟨⟨t268, t269⟩, A190, H⟩ := H
        replace H : ((calamuslaw01_Two_ref.f a0_0 a0_1).bind fun bt270 => ((calamusref01_Neg.f bt270.1 bt270.2.1 bt270.2.2.1 bt270.2.2.2.1 bt270.2.2.2.2.1 bt270.2.2.2.2.2.1 bt270.2.2.2.2.2.2.1 bt270.2.2.2.2.2.2.2).bind fun bt278 => ((calamuslaw01_is.f t268 t269 bt278.1 bt278.2.1 bt278.2.2.1 bt278.2.2.2.1 bt278.2.2.2.2.1 bt278.2.2.2.2.2.1 bt278.2.2.2.2.2.2.1 bt278.2.2.2.2.2.2.2).bind fun t286 => (if t286 = true then ((wide_Cmp.f k t208 t209 t210 t211).bind fun t287 => ((calamuslaw01_Two_ref.f a0_0 a0_1).bind fun bt288 => ((calamuslaw01_Two_ref.f a1_0 a1_1).bind fun bt296 => ((calamusref01_Cmp.f bt288.1 bt288.2.1 bt288.2.2.1 bt288.2.2.2.1 bt288.2.2.2.2.1 bt288.2.2.2.2.2.1 bt288.2.2.2.2.2.2.1 bt288.2.2.2.2.2.2.2 bt296.1 bt296.2.1 bt296.2.2.1 bt296.2.2.2.1 bt296.2.2.2.2.1 bt296.2.2.2.2.2.1 bt296.2.2.2.2.2.2.1 bt296.2.2.2.2.2.2.2).bind fun t304 => (if t287 = t304 then ((wide_Sign.f k t208 t209).bind fun t305 => ((calamuslaw01_Two_ref.f a0_0 a0_1).bind fun bt306 => ((calamusref01_Sign.f bt306.1 bt306.2.1 bt306.2.2.1 bt306.2.2.2.1 bt306.2.2.2.2.1 bt306.2.2.2.2.2.1 bt306.2.2.2.2.2.2.1 bt306.2.2.2.2.2.2.2).bind fun t314 => (some (t305 == t314))))) else (none)))))) else (none))))) = some r := H
        have A19 := Aside0.mk A190
        clear A190
        replace H := Option.bind_eq_some_iff.mp H
        obtain ⟨⟨t270, t271, t272, t273, t274, t275, t276, t277⟩, A200, H⟩ := H
        replace H : ((calamusref01_Neg.f t270 t271 t272 t273 t274 t275 t276 t277).bind fun bt278 => ((calamuslaw01_is.f t268 t269 bt278.1 bt278.2.1 bt278.2.2.1 bt278.2.2.2.1 bt278.2.2.2.2.1 bt278.2.2.2.2.2.1 bt278.2.2.2.2.2.2.1 bt278.2.2.2.2.2.2.2).bind fun t286 => (if t286 = true then ((wide_Cmp.f k t208 t209 t210 t211).bind fun t287 => ((calamuslaw01_Two_ref.f a0_0 a0_1).bind fun bt288 => ((calamuslaw01_Two_ref.f a1_0 a1_1).bind fun bt296 => ((calamusref01_Cmp.f bt288.1 bt288.2.1 bt288.2.2.1 bt288.2.2.2.1 bt288.2.2.2.2.1 bt288.2.2.2.2.2.1 bt288.2.2.2.2.2.2.1 bt288.2.2.2.2.2.2.2 bt296.1 bt296.2.1 bt296.2.2.1 bt296.2.2.2.1 bt296.2.2.2.2.1 bt296.2.2.2.2.2.1 bt296.2.2.2.2.2.2.1 bt296.2.2.2.2.2.2.2).bind fun t304 => (if t287 = t304 then ((wide_Sign.f k t208 t209).bind fun t305 => ((calamuslaw01_Two_ref.f a0_0 a0_1).bind fun bt306 => ((calamusref01_Sign.f bt306.1 bt306.2.1 bt306.2.2.1 bt306.2.2.2.1 bt306.2.2.2.2.1 bt306.2.2.2.2.2.1 bt306.2.2.2.2.2.2.1 bt306.2.2.2.2.2.2.2).bind fun t314 => (some (t305 == t314))))) else (none)))))) else (none)))) = some r := H
        have A20 := Aside0.mk A200
        clear A200
        replace H := Option.bind_eq_some_iff.mp H
        obtain ⟨⟨t278, t279, t280, t281, t282, t283, t284, t285⟩, A210, H⟩ := H
        replace H : ((calamuslaw01_is.f t268 t269 t278 t279 t280 t281 t282 t283 t284 t285).bind fun t286 => (if t286 = true then ((wide_Cmp.f k t208 t209 t210 t211).bind fun t287 => ((calamuslaw01_Two_ref.f a0_0 a0_1).bind fun bt288 => ((calamuslaw01_Two_ref.f a1_0 a1_1).bind fun bt296 => ((calamusref01_Cmp.f bt288.1 bt288.2.1 bt288.2.2.1 bt288.2.2.2.1 bt288.2.2.2.2.1 bt288.2.2.2.2.2.1 bt288.2.2.2.2.2.2.1 bt288.2.2.2.2.2.2.2 bt296.1 bt296.2.1 bt296.2.2.1 bt296.2.2.2.1 bt296.2.2.2.2.1 bt296.2.2.2.2.2.1 bt296.2.2.2.2.2.2.1 bt296.2.2.2.2.2.2.2).bind fun t304 => (if t287 = t304 then ((wide_Sign.f k t208 t209).bind fun t305 => ((calamuslaw01_Two_ref.f a0_0 a0_1).bind fun bt306 => ((calamusref01_Sign.f bt306.1 bt306.2.1 bt306.2.2.1 bt306.2.2.2.1 bt306.2.2.2.2.1 bt306.2.2.2.2.2.1 bt306.2.2.2.2.2.2.1 bt306.2.2.2.2.2.2.2).bind fun t314 => (some (t305 == t314))))) else (none)))))) else (none))) = some r := H
        have A21 := Aside0.mk A210
        clear A210
        replace H := Option.bind_eq_some_iff.mp H
        obtain ⟨t286, A220, H⟩ := H
        replace H : (if t286 = true then ((wide_Cmp.f k t208 t209 t210 t211).bind fun t287 => ((calamuslaw01_Two_ref.f a0_0 a0_1).bind fun bt288 => ((calamuslaw01_Two_ref.f a1_0 a1_1).bind fun bt296 => ((calamusref01_Cmp.f bt288.1 bt288.2.1 bt288.2.2.1 bt288.2.2.2.1 bt288.2.2.2.2.1 bt288.2.2.2.2.2.1 bt288.2.2.2.2.2.2.1 bt288.2.2.2.2.2.2.2 bt296.1 bt296.2.1 bt296.2.2.1 bt296.2.2.2.1 bt296.2.2.2.2.1 bt296.2.2.2.2.2.1 bt296.2.2.2.2.2.2.1 bt296.2.2.2.2.2.2.2).bind fun t304 => (if t287 = t304 then ((wide_Sign.f k t208 t209).bind fun t305 => ((calamuslaw01_Two_ref.f a0_0 a0_1).bind fun bt306 => ((calamusref01_Sign.f bt306.1 bt306.2.1 bt306.2.2.1 bt306.2.2.2.1 bt306.2.2.2.2.1 bt306.2.2.2.2.2.1 bt306.2.2.2.2.2.2.1 bt306.2.2.2.2.2.2.2).bind fun t314 => (some (t305 == t314))))) else (none)))))) else (none)) = some r := H
        have A22 := Aside0.mk A220
        clear A220
        by_cases c23 : t286 = true
        · subst c23
          have H1 : ((wide_Cmp.f k t208 t209 t210 t211).bind fun t287 => ((calamuslaw01_Two_ref.f a0_0 a0_1).bind fun bt288 => ((calamuslaw01_Two_ref.f a1_0 a1_1).bind fun bt296 => ((calamusref01_Cmp.f bt288.1 bt288.2.1 bt288.2.2.1 bt288.2.2.2.1 bt288.2.2.2.2.1 bt288.2.2.2.2.2.1 bt288.2.2.2.2.2.2.1 bt288.2.2.2.2.2.2.2 bt296.1 bt296.2.1 bt296.2.2.1 bt296.2.2.2.1 bt296.2.2.2.2.1 bt296.2.2.2.2.2.1 bt296.2.2.2.2.2.2.1 bt296.2.2.2.2.2.2.2).bind fun t304 => (if t287 = t304 then ((wide_Sign.f k t208 t209).bind fun t305 => ((calamuslaw01_Two_ref.f a0_0 a0_1).bind fun bt306 => ((calamusref01_Sign.f bt306.1 bt306.2.1 bt306.2.2.1 bt306.2.2.2.1 bt306.2.2.2.2.1 bt306.2.2.2.2.2.1 bt306.2.2.2.2.2.2.1 bt306.2.2.2.2.2.2.2).bind fun t314 => (some (t305 == t314))))) else (none)))))) = some r := by rw [if_pos rfl] at H; exact H
          clear H
          have H := H1
          clear H1
          replace H := Option.bind_eq_some_iff.mp H
          obtain ⟨t287, A240, H⟩ := H
          replace H : ((calamuslaw01_Two_ref.f a0_0 a0_1).bind fun bt288 => ((calamuslaw01_Two_ref.f a1_0 a1_1).bind fun bt296 => ((calamusref01_Cmp.f bt288.1 bt288.2.1 bt288.2.2.1 bt288.2.2.2.1 bt288.2.2.2.2.1 bt288.2.2.2.2.2.1 bt288.2.2.2.2.2.2.1 bt288.2.2.2.2.2.2.2 bt296.1 bt296.2.1 bt296.2.2.1 bt296.2.2.2.1 bt296.2.2.2.2.1 bt296.2.2.2.2.2.1 bt296.2.2.2.2.2.2.1 bt296.2.2.2.2.2.2.2).bind fun t304 => (if t287 = t304 then ((wide_Sign.f k t208 t209).bind fun t305 => ((calamuslaw01_Two_ref.f a0_0 a0_1).bind fun bt306 => ((calamusref01_Sign.f bt306.1 bt306.2.1 bt306.2.2.1 bt306.2.2.2.1 bt306.2.2.2.2.1 bt306.2.2.2.2.2.1 bt306.2.2.2.2.2.2.1 bt306.2.2.2.2.2.2.2).bind fun t314 => (some (t305 == t314))))) else (none))))) = some r := H
          have A24 := Aside0.mk A240
          clear A240
          replace H := Option.bind_eq_some_iff.mp H
          obtain ⟨⟨t288, t289, t290, t291, t292, t293, t294, t295⟩, A250, H⟩ := H
          replace H : ((calamuslaw01_Two_ref.f a1_0 a1_1).bind fun bt296 => ((calamusref01_Cmp.f t288 t289 t290 t291 t292 t293 t294 t295 bt296.1 bt296.2.1 bt296.2.2.1 bt296.2.2.2.1 bt296.2.2.2.2.1 bt296.2.2.2.2.2.1 bt296.2.2.2.2.2.2.1 bt296.2.2.2.2.2.2.2).bind fun t304 => (if t287 = t304 then ((wide_Sign.f k t208 t209).bind fun t305 => ((calamuslaw01_Two_ref.f a0_0 a0_1).bind fun bt306 => ((calamusref01_Sign.f bt306.1 bt306.2.1 bt306.2.2.1 bt306.2.2.2.1 bt306.2.2.2.2.1 bt306.2.2.2.2.2.1 bt306.2.2.2.2.2.2.1 bt306.2.2.2.2.2.2.2).bind fun t314 => (some (t305 == t314))))) else (none)))) = some r := H
          have A25 := Aside0.mk A250
          clear A250
          replace H := Option.bind_eq_some_iff.mp H
          obtain ⟨⟨t296, t297, t298, t299, t300, t301, t302, t303⟩, A260, H⟩ := H
          replace H : ((calamusref01_Cmp.f t288 t289 t290 t291 t292 t293 t294 t295 t296 t297 t298 t299 t300 t301 t302 t303).bind fun t304 => (if t287 = t304 then ((wide_Sign.f k t208 t209).bind fun t305 => ((calamuslaw01_Two_ref.f a0_0 a0_1).bind fun bt306 => ((calamusref01_Sign.f bt306.1 bt306.2.1 bt306.2.2.1 bt306.2.2.2.1 bt306.2.2.2.2.1 bt306.2.2.2.2.2.1 bt306.2.2.2.2.2.2.1 bt306.2.2.2.2.2.2.2).bind fun t314 => (some (t305 == t314))))) else (none))) = some r := H
          have A26 := Aside0.mk A260
          clear A260
          replace H := Option.bind_eq_some_iff.mp H
          obtain ⟨t304, A270, H⟩ := H
          replace H : (if t287 = t304 then ((wide_Sign.f k t208 t209).bind fun t305 => ((calamuslaw01_Two_ref.f a0_0 a0_1).bind fun bt306 => ((calamusref01_Sign.f bt306.1 bt306.2.1 bt306.2.2.1 bt306.2.2.2.1 bt306.2.2.2.2.1 bt306.2.2.2.2.2.1 bt306.2.2.2.2.2.2.1 bt306.2.2.2.2.2.2.2).bind fun t314 => (some (t305 == t314))))) else (none)) = some r := H
          have A27 := Aside0.mk A270
          clear A270
          by_cases c28 : t287 = t304
          · rw [if_pos c28] at H
            have c28b0 : (t287 == t304) = true := beq_iff_eq.mpr c28
            have c28b1 : (t287 != t304) = false := bne_eq_false_iff_eq.mpr c28
            clear c28
            replace H := Option.bind_eq_some_iff.mp H
            obtain ⟨t305, A290, H⟩ := H
            replace H : ((calamuslaw01_Two_ref.f a0_0 a0_1).bind fun bt306 => ((calamusref01_Sign.f bt306.1 bt306.2.1 bt306.2.2.1 bt306.2.2.2.1 bt306.2.2.2.2.1 bt306.2.2.2.2.2.1 bt306.2.2.2.2.2.2.1 bt306.2.2.2.2.2.2.2).bind fun t314 => (some (t305 == t314)))) = some r := H
            have A29 := Aside0.mk A290
            clear A290
            replace H := Option.bind_eq_some_iff.mp H
            obtain ⟨⟨t306, t307, t308, t309, t310, t311, t312, t313⟩, A300, H⟩ := H
            replace H : ((calamusref01_Sign.f t306 t307 t308 t309 t310 t311 t312 t313).bind fun t314 => (some (t305 == t314))) = some r := H
            have A30 := Aside0.mk A300
            clear A300
            replace H := Option.bind_eq_some_iff.mp H
            obtain ⟨t314, A310, H⟩ := H
            replace H : (some (t305 == t314)) = some r := H
            have A31 := Aside0.mk A310
            clear A310
            obtain rfl := Option.some.inj H
            go_enter Try.func10, Try.ntmps10
            try go_wp2_with (first | ((with_reducible refine gate_dst (N := 2) rfl ?_); refine box_event ?hg (N := 2) ?hd (cs := #[.int .i64 a0_0, .int .u64 a0_1]) (t := 24) ?hr ?_; (case hd => rfl); (case hg => rfl); (case hr => first | (go_simp; done) | (go_simp; rfl)); intro gb205 hg w32 hbox hb; have n0_ := Aside0.mk (below_step (by repeat (first | (with_reducible first | exact HB.out | apply below_alloc | apply pw_below_drewN | apply below_drew1) | exact HB.out)) hb); have n1_ := Aside0.mk (hbox); have n2_ := Aside0.mk ((by rw [hg]; exact (below_size (by repeat (first | (with_reducible first | exact HB.out | apply below_alloc | apply pw_below_drewN | apply below_drew1) | exact HB.out))) : w.heap.size ≤ gb205)); have n3_ := Aside0.mk ((by rw [hg]; exact (below_size (by repeat (first | (with_reducible first | exact HB.out | apply below_alloc | apply pw_below_drewN | apply below_drew1) | exact HB.out))) : w.heap.size ≤ gb205)); clear HB; have HB := n0_; have BK205 := n1_; have GW205 := n2_; have GE205 := n3_; clear n0_ n1_ n2_ n3_; clear hb hbox hg) | ((with_reducible refine gate_dst (N := 3) rfl ?_); refine box_event ?hg (N := 3) ?hd (cs := #[.int .i64 a1_0, .int .u64 a1_1]) (t := 24) ?hr ?_; (case hd => rfl); (case hg => rfl); (case hr => first | (go_simp; done) | (go_simp; rfl)); intro gb206 hg w33 hbox hb; have n0_ := Aside0.mk (blk_below (g := gb205) (o := .cells #[.int .i64 a0_0, .int .u64 a0_1] 24 (0, 0)) (by (with_reducible repeat (first | refine blk_drewN ?_ _ | refine blk_alloc ?_ _)); exact BK205.out) hb); have n1_ := Aside0.mk (below_step (by repeat (first | (with_reducible first | exact HB.out | apply below_alloc | apply pw_below_drewN | apply below_drew1 | refine below_set ?_ GE205.out) | exact HB.out)) hb); have n2_ := Aside0.mk (hbox); have n3_ := Aside0.mk ((by rw [hg]; exact (below_size (by repeat (first | (with_reducible first | exact HB.out | apply below_alloc | apply pw_below_drewN | apply below_drew1 | refine below_set ?_ GE205.out) | exact HB.out))) : w.heap.size ≤ gb206)); have n4_ := Aside0.mk ((by rw [hg]; exact (below_size (by repeat (first | (with_reducible first | exact HB.out | apply below_alloc | apply pw_below_drewN | apply below_drew1 | refine below_set ?_ GE205.out) | exact HB.out))) : w.heap.size ≤ gb206)); have n5_ := Aside0.mk ((by rw [hg]; exact Nat.ne_of_lt (blk_lt (g := gb205) (o := .cells #[.int .i64 a0_0, .int .u64 a0_1] 24 (0, 0)) (by (with_reducible repeat (first | refine blk_drewN ?_ _ | refine blk_alloc ?_ _)); exact BK205.out)) : gb205 ≠ gb206)); have n6_ := Aside0.mk ((by rw [hg]; exact Nat.ne_of_gt (blk_lt (g := gb205) (o := .cells #[.int .i64 a0_0, .int .u64 a0_1] 24 (0, 0)) (by (with_reducible repeat (first | refine blk_drewN ?_ _ | refine blk_alloc ?_ _)); exact BK205.out)) : gb206 ≠ gb205)); clear BK205; clear HB; have BK205 := n0_; have HB := n1_; have BK206 := n2_; have GW206 := n3_; have GE206 := n4_; have NB205_206 := n5_; have NB206_205 := n6_; clear n0_ n1_ n2_ n3_ n4_ n5_ n6_; clear hb hbox hg) | ((with_reducible refine gate_callee (f := 15) rfl ?_); refine goesL_ (some 7) rfl rfl Try.func15 (by kernel_rfl) rfl #[] rfl (by (try simp only [List.map_toArray, List.map_cons, List.map_nil]); first | done | rfl | (simp only [List.length_drop, List.length_take]; rfl)) ?_; (with_reducible refine (calamuslaw01_alive.calls k  true _ A3.out).mono ?_); rintro e w34 ⟨rfl, hb⟩; refine ⟨_, rfl, ?_⟩; have n0_ := Aside0.mk (blk_below (g := gb205) (o := .cells #[.int .i64 a0_0, .int .u64 a0_1] 24 (0, 0)) (by (with_reducible repeat (first | refine blk_drewN ?_ _ | refine blk_alloc ?_ _)); exact BK205.out) hb); have n1_ := Aside0.mk (blk_below (g := gb206) (o := .cells #[.int .i64 a1_0, .int .u64 a1_1] 24 (0, 0)) (by (with_reducible repeat (first | refine blk_drewN ?_ _ | refine blk_alloc ?_ _)); exact BK206.out) hb); have n2_ := Aside0.mk (below_step (by repeat (first | (with_reducible first | exact HB.out | apply below_alloc | apply pw_below_drewN | apply below_drew1 | refine below_set ?_ GE205.out | refine below_set ?_ GE206.out) | exact HB.out)) hb); clear BK205; clear BK206; clear HB; have BK205 := n0_; have BK206 := n1_; have HB := n2_; clear n0_ n1_ n2_; (try clear hb); (try clear hb2); (try clear hk); (try clear hi)))
            have n0_ := Aside0.mk (blk_drew BK205.out)
            have n1_ := Aside0.mk (blk_drew BK206.out)
            have n2_ := Aside0.mk (below_drew1 HB.out)
            clear BK205
            clear BK206
            clear HB
            have BK205 := n0_
            have BK206 := n1_
            have HB := n2_
            clear n0_ n1_ n2_
            refine start_ (n := 8) (S := fun w' => w'.cell? ⟨gb205, 0, none⟩ = some (.int .i64 a0_0) ∧ w'.cell? ⟨gb205, 1, none⟩ = some (.int .u64 a0_1) ∧ w'.cell? ⟨gb206, 0, none⟩ = some (.int .i64 a1_0) ∧ w'.cell? ⟨gb206, 1, none⟩ = some (.int .u64 a1_1)) (ds := []) #[false, false, false, false, false, false, false, false] (by kernel_rfl) rfl rfl ⟨(blk_cell BK205.out 0).trans rfl, (blk_cell BK205.out 1).trans rfl, (blk_cell BK206.out 0).trans rfl, (blk_cell BK206.out 1).trans rfl⟩ (fun hHeld => ?_); refine with_tabW calamuslaw01_WideAdds.tab3 calamuslaw01_WideAdds.bits3 (fun HT_ HW_ => ?_)
            generalize w34.drew = w35 at BK205 BK206 HB hHeld ⊢
            refine take_ (i := 0) (N := some 9) (v := ?_) (a' := ?_) #[true, false, false, false, false, false, false, false] rfl rfl (take_ofW HT_.out HW_.out (by kernel_rfl)) (fun _ _ _ h => h) (Or.inl ⟨by rfl, ?_⟩) hHeld ?_ ?_
            rotate_left
            · rintro w' ⟨s0, s1, s2, s3⟩
              go_simp
              with_reducible rfl
            rotate_left
            · simp only [Act.put, List.setIfInBounds_toArray, List.set_cons_zero, List.set_cons_succ, i64_w, i32_w]
              rfl
            refine take_ (i := 2) (N := some 11) (v := ?_) (a' := ?_) #[true, false, true, false, false, false, false, false] rfl rfl (take_ofW HT_.out HW_.out (by kernel_rfl)) (fun _ _ _ h => h) (Or.inl ⟨by rfl, ?_⟩) hHeld ?_ ?_
            rotate_left
            · rintro w' ⟨s0, s1, s2, s3⟩
              go_simp
              with_reducible rfl
            rotate_left
            · simp only [Act.put, List.setIfInBounds_toArray, List.set_cons_zero, List.set_cons_succ, i64_w, i32_w]
              rfl
            refine join_ (σ := Nat × Nat) 2 #[true, true, true, true, true, true, false, false] (fun s_ => [(10, .agg #[.int .i64 t208, .int .u64 t209]), (12, .agg #[.int .i64 t210, .int .u64 t211]), (5, .pointer (some ⟨s_.1, 0, none⟩)), (6, .pointer (some ⟨s_.2, 0, none⟩))]) (fun s_ w' => (w'.cell? ⟨gb205, 0, none⟩ = some (.int .i64 a0_0) ∧ w'.cell? ⟨gb205, 1, none⟩ = some (.int .u64 a0_1) ∧ w'.cell? ⟨gb206, 0, none⟩ = some (.int .i64 a1_0) ∧ w'.cell? ⟨gb206, 1, none⟩ = some (.int .u64 a1_1)) ∧ (w'.heap[gb205]? = some (.cells #[.int .i64 a0_0, .int .u64 a0_1] 24 (0, 0))) ∧ (w'.heap[gb206]? = some (.cells #[.int .i64 a1_0, .int .u64 a1_1] 24 (0, 0))) ∧ (w'.heap[s_.1]? = some (.cells #[.int .i64 0, .int .u64 0] 28 (0, 0))) ∧ (w'.heap[s_.2]? = some (.cells #[.int .i64 0, .int .u64 0] 28 (0, 0))) ∧ (w.heap.size ≤ s_.1) ∧ (w.heap.size ≤ s_.1) ∧ (gb205 ≠ s_.1) ∧ (s_.1 ≠ gb205) ∧ (gb206 ≠ s_.1) ∧ (s_.1 ≠ gb206) ∧ (s_.2 ≠ s_.1) ∧ (s_.1 ≠ s_.2) ∧ (w.heap.size ≤ s_.2) ∧ (w.heap.size ≤ s_.2) ∧ (gb205 ≠ s_.2) ∧ (s_.2 ≠ gb205) ∧ (gb206 ≠ s_.2) ∧ (s_.2 ≠ gb206) ∧ (Below w.heap.size w w')) ?_ ?_
            rotate_left
            · intro hJ1_3_4_5
              refine join_ (σ := Nat) 3 #[true, true, true, true, true, false, false, false] (fun s_ => [(10, .agg #[.int .i64 t208, .int .u64 t209]), (12, .agg #[.int .i64 t210, .int .u64 t211]), (5, .pointer (some ⟨s_, 0, none⟩))]) (fun s_ w' => (w'.cell? ⟨gb205, 0, none⟩ = some (.int .i64 a0_0) ∧ w'.cell? ⟨gb205, 1, none⟩ = some (.int .u64 a0_1) ∧ w'.cell? ⟨gb206, 0, none⟩ = some (.int .i64 a1_0) ∧ w'.cell? ⟨gb206, 1, none⟩ = some (.int .u64 a1_1)) ∧ (w'.heap[gb205]? = some (.cells #[.int .i64 a0_0, .int .u64 a0_1] 24 (0, 0))) ∧ (w'.heap[gb206]? = some (.cells #[.int .i64 a1_0, .int .u64 a1_1] 24 (0, 0))) ∧ (w'.heap[s_]? = some (.cells #[.int .i64 0, .int .u64 0] 28 (0, 0))) ∧ (w.heap.size ≤ s_) ∧ (w.heap.size ≤ s_) ∧ (gb205 ≠ s_) ∧ (s_ ≠ gb205) ∧ (gb206 ≠ s_) ∧ (s_ ≠ gb206) ∧ (Below w.heap.size w w')) ?_ ?_
              rotate_left
              · intro hJ1_3_4
                refine join_ (σ := Nat) 3 #[true, true, true, true, false, true, false, false] (fun s_ => [(10, .agg #[.int .i64 t208, .int .u64 t209]), (12, .agg #[.int .i64 t210, .int .u64 t211]), (6, .pointer (some ⟨s_, 0, none⟩))]) (fun s_ w' => (w'.cell? ⟨gb205, 0, none⟩ = some (.int .i64 a0_0) ∧ w'.cell? ⟨gb205, 1, none⟩ = some (.int .u64 a0_1) ∧ w'.cell? ⟨gb206, 0, none⟩ = some (.int .i64 a1_0) ∧ w'.cell? ⟨gb206, 1, none⟩ = some (.int .u64 a1_1)) ∧ (w'.heap[gb205]? = some (.cells #[.int .i64 a0_0, .int .u64 a0_1] 24 (0, 0))) ∧ (w'.heap[gb206]? = some (.cells #[.int .i64 a1_0, .int .u64 a1_1] 24 (0, 0))) ∧ (w'.heap[s_]? = some (.cells #[.int .i64 0, .int .u64 0] 28 (0, 0))) ∧ (w.heap.size ≤ s_) ∧ (w.heap.size ≤ s_) ∧ (gb205 ≠ s_) ∧ (s_ ≠ gb205) ∧ (gb206 ≠ s_) ∧ (s_ ≠ gb206) ∧ (Below w.heap.size w w')) ?_ ?_
                rotate_left
                · intro hJ1_3_5
                  refine join_ (σ := Nat × Nat) 3 #[true, true, true, false, true, true, false, false] (fun s_ => [(10, .agg #[.int .i64 t208, .int .u64 t209]), (5, .pointer (some ⟨s_.1, 0, none⟩)), (6, .pointer (some ⟨s_.2, 0, none⟩))]) (fun s_ w' => (w'.cell? ⟨gb205, 0, none⟩ = some (.int .i64 a0_0) ∧ w'.cell? ⟨gb205, 1, none⟩ = some (.int .u64 a0_1) ∧ w'.cell? ⟨gb206, 0, none⟩ = some (.int .i64 a1_0) ∧ w'.cell? ⟨gb206, 1, none⟩ = some (.int .u64 a1_1)) ∧ (w'.heap[gb205]? = some (.cells #[.int .i64 a0_0, .int .u64 a0_1] 24 (0, 0))) ∧ (w'.heap[gb206]? = some (.cells #[.int .i64 a1_0, .int .u64 a1_1] 24 (0, 0))) ∧ (w'.heap[s_.1]? = some (.cells #[.int .i64 0, .int .u64 0] 28 (0, 0))) ∧ (w'.heap[s_.2]? = some (.cells #[.int .i64 0, .int .u64 0] 28 (0, 0))) ∧ (w.heap.size ≤ s_.1) ∧ (w.heap.size ≤ s_.1) ∧ (gb205 ≠ s_.1) ∧ (s_.1 ≠ gb205) ∧ (gb206 ≠ s_.1) ∧ (s_.1 ≠ gb206) ∧ (s_.2 ≠ s_.1) ∧ (s_.1 ≠ s_.2) ∧ (w.heap.size ≤ s_.2) ∧ (w.heap.size ≤ s_.2) ∧ (gb205 ≠ s_.2) ∧ (s_.2 ≠ gb205) ∧ (gb206 ≠ s_.2) ∧ (s_.2 ≠ gb206) ∧ (Below w.heap.size w w')) ?_ ?_
                  rotate_left
                  · intro hJ1_4_5
                    refine join_ (σ := Unit) 4 #[true, true, true, true, false, false, false, false] (fun s_ => [(10, .agg #[.int .i64 t208, .int .u64 t209]), (12, .agg #[.int .i64 t210, .int .u64 t211])]) (fun s_ w' => (w'.cell? ⟨gb205, 0, none⟩ = some (.int .i64 a0_0) ∧ w'.cell? ⟨gb205, 1, none⟩ = some (.int .u64 a0_1) ∧ w'.cell? ⟨gb206, 0, none⟩ = some (.int .i64 a1_0) ∧ w'.cell? ⟨gb206, 1, none⟩ = some (.int .u64 a1_1)) ∧ (w'.heap[gb205]? = some (.cells #[.int .i64 a0_0, .int .u64 a0_1] 24 (0, 0))) ∧ (w'.heap[gb206]? = some (.cells #[.int .i64 a1_0, .int .u64 a1_1] 24 (0, 0))) ∧ (Below w.heap.size w w')) ?_ ?_
                    rotate_left
                    · intro hJ1_3
                      refine join_ (σ := Nat) 4 #[true, true, true, false, true, false, false, false] (fun s_ => [(10, .agg #[.int .i64 t208, .int .u64 t209]), (5, .pointer (some ⟨s_, 0, none⟩))]) (fun s_ w' => (w'.cell? ⟨gb205, 0, none⟩ = some (.int .i64 a0_0) ∧ w'.cell? ⟨gb205, 1, none⟩ = some (.int .u64 a0_1) ∧ w'.cell? ⟨gb206, 0, none⟩ = some (.int .i64 a1_0) ∧ w'.cell? ⟨gb206, 1, none⟩ = some (.int .u64 a1_1)) ∧ (w'.heap[gb205]? = some (.cells #[.int .i64 a0_0, .int .u64 a0_1] 24 (0, 0))) ∧ (w'.heap[gb206]? = some (.cells #[.int .i64 a1_0, .int .u64 a1_1] 24 (0, 0))) ∧ (w'.heap[s_]? = some (.cells #[.int .i64 0, .int .u64 0] 28 (0, 0))) ∧ (w.heap.size ≤ s_) ∧ (w.heap.size ≤ s_) ∧ (gb205 ≠ s_) ∧ (s_ ≠ gb205) ∧ (gb206 ≠ s_) ∧ (s_ ≠ gb206) ∧ (Below w.heap.size w w')) ?_ ?_
                      rotate_left
                      · intro hJ1_4
                        refine join_ (σ := Nat) 4 #[true, true, true, false, false, true, false, false] (fun s_ => [(10, .agg #[.int .i64 t208, .int .u64 t209]), (6, .pointer (some ⟨s_, 0, none⟩))]) (fun s_ w' => (w'.cell? ⟨gb205, 0, none⟩ = some (.int .i64 a0_0) ∧ w'.cell? ⟨gb205, 1, none⟩ = some (.int .u64 a0_1) ∧ w'.cell? ⟨gb206, 0, none⟩ = some (.int .i64 a1_0) ∧ w'.cell? ⟨gb206, 1, none⟩ = some (.int .u64 a1_1)) ∧ (w'.heap[gb205]? = some (.cells #[.int .i64 a0_0, .int .u64 a0_1] 24 (0, 0))) ∧ (w'.heap[gb206]? = some (.cells #[.int .i64 a1_0, .int .u64 a1_1] 24 (0, 0))) ∧ (w'.heap[s_]? = some (.cells #[.int .i64 0, .int .u64 0] 28 (0, 0))) ∧ (w.heap.size ≤ s_) ∧ (w.heap.size ≤ s_) ∧ (gb205 ≠ s_) ∧ (s_ ≠ gb205) ∧ (gb206 ≠ s_) ∧ (s_ ≠ gb206) ∧ (Below w.heap.size w w')) ?_ ?_
                        rotate_left
                        · intro hJ1_5
                          refine join_ (σ := Nat × Nat) 4 #[true, false, true, false, true, true, false, false] (fun s_ => [(5, .pointer (some ⟨s_.1, 0, none⟩)), (6, .pointer (some ⟨s_.2, 0, none⟩))]) (fun s_ w' => (w'.cell? ⟨gb205, 0, none⟩ = some (.int .i64 a0_0) ∧ w'.cell? ⟨gb205, 1, none⟩ = some (.int .u64 a0_1) ∧ w'.cell? ⟨gb206, 0, none⟩ = some (.int .i64 a1_0) ∧ w'.cell? ⟨gb206, 1, none⟩ = some (.int .u64 a1_1)) ∧ (w'.heap[gb205]? = some (.cells #[.int .i64 a0_0, .int .u64 a0_1] 24 (0, 0))) ∧ (w'.heap[gb206]? = some (.cells #[.int .i64 a1_0, .int .u64 a1_1] 24 (0, 0))) ∧ (w'.heap[s_.1]? = some (.cells #[.int .i64 0, .int .u64 0] 28 (0, 0))) ∧ (w'.heap[s_.2]? = some (.cells #[.int .i64 0, .int .u64 0] 28 (0, 0))) ∧ (w.heap.size ≤ s_.1) ∧ (w.heap.size ≤ s_.1) ∧ (gb205 ≠ s_.1) ∧ (s_.1 ≠ gb205) ∧ (gb206 ≠ s_.1) ∧ (s_.1 ≠ gb206) ∧ (s_.2 ≠ s_.1) ∧ (s_.1 ≠ s_.2) ∧ (w.heap.size ≤ s_.2) ∧ (w.heap.size ≤ s_.2) ∧ (gb205 ≠ s_.2) ∧ (s_.2 ≠ gb205) ∧ (gb206 ≠ s_.2) ∧ (s_.2 ≠ gb206) ∧ (Below w.heap.size w w')) ?_ ?_
                          rotate_left
                          · intro hJ4_5
                            refine join_ (σ := Unit) 5 #[true, true, true, false, false, false, false, false] (fun s_ => [(10, .agg #[.int .i64 t208, .int .u64 t209])]) (fun s_ w' => (w'.cell? ⟨gb205, 0, none⟩ = some (.int .i64 a0_0) ∧ w'.cell? ⟨gb205, 1, none⟩ = some (.int .u64 a0_1) ∧ w'.cell? ⟨gb206, 0, none⟩ = some (.int .i64 a1_0) ∧ w'.cell? ⟨gb206, 1, none⟩ = some (.int .u64 a1_1)) ∧ (w'.heap[gb205]? = some (.cells #[.int .i64 a0_0, .int .u64 a0_1] 24 (0, 0))) ∧ (w'.heap[gb206]? = some (.cells #[.int .i64 a1_0, .int .u64 a1_1] 24 (0, 0))) ∧ (Below w.heap.size w w')) ?_ ?_
                            rotate_left
                            · intro hJ1
                              refine join_ (σ := Nat) 5 #[true, false, true, false, true, false, false, false] (fun s_ => [(5, .pointer (some ⟨s_, 0, none⟩))]) (fun s_ w' => (w'.cell? ⟨gb205, 0, none⟩ = some (.int .i64 a0_0) ∧ w'.cell? ⟨gb205, 1, none⟩ = some (.int .u64 a0_1) ∧ w'.cell? ⟨gb206, 0, none⟩ = some (.int .i64 a1_0) ∧ w'.cell? ⟨gb206, 1, none⟩ = some (.int .u64 a1_1)) ∧ (w'.heap[gb205]? = some (.cells #[.int .i64 a0_0, .int .u64 a0_1] 24 (0, 0))) ∧ (w'.heap[gb206]? = some (.cells #[.int .i64 a1_0, .int .u64 a1_1] 24 (0, 0))) ∧ (w'.heap[s_]? = some (.cells #[.int .i64 0, .int .u64 0] 28 (0, 0))) ∧ (w.heap.size ≤ s_) ∧ (w.heap.size ≤ s_) ∧ (gb205 ≠ s_) ∧ (s_ ≠ gb205) ∧ (gb206 ≠ s_) ∧ (s_ ≠ gb206) ∧ (Below w.heap.size w w')) ?_ ?_
                              rotate_left
                              · intro hJ4
                                refine join_ (σ := Nat) 5 #[true, false, true, false, false, true, false, false] (fun s_ => [(6, .pointer (some ⟨s_, 0, none⟩))]) (fun s_ w' => (w'.cell? ⟨gb205, 0, none⟩ = some (.int .i64 a0_0) ∧ w'.cell? ⟨gb205, 1, none⟩ = some (.int .u64 a0_1) ∧ w'.cell? ⟨gb206, 0, none⟩ = some (.int .i64 a1_0) ∧ w'.cell? ⟨gb206, 1, none⟩ = some (.int .u64 a1_1)) ∧ (w'.heap[gb205]? = some (.cells #[.int .i64 a0_0, .int .u64 a0_1] 24 (0, 0))) ∧ (w'.heap[gb206]? = some (.cells #[.int .i64 a1_0, .int .u64 a1_1] 24 (0, 0))) ∧ (w'.heap[s_]? = some (.cells #[.int .i64 0, .int .u64 0] 28 (0, 0))) ∧ (w.heap.size ≤ s_) ∧ (w.heap.size ≤ s_) ∧ (gb205 ≠ s_) ∧ (s_ ≠ gb205) ∧ (gb206 ≠ s_) ∧ (s_ ≠ gb206) ∧ (Below w.heap.size w w')) ?_ ?_
                                rotate_left
                                · intro hJ5
                                  refine three_ (i := 1) (j := 4) (k := 5) (Ni := some 10) (Nj := some 5) (Nk := some 6) #[true, true, true, false, false, false, false, false] #[true, false, true, false, true, false, false, false] #[true, false, true, false, false, true, false, false] rfl rfl rfl rfl rfl rfl (three_of HT_.out (by kernel_rfl)) (by decide) (by decide) (by decide) (fun K hK => ?_) (fun K hK => ?_) (fun K hK => ?_)
                                  · skip
                                    refine goes_ Try.func17 (by kernel_rfl) rfl #[.agg #[.int .i64 a0_0, .int .u64 a0_1]] (by rfl) rfl rfl (by (try simp only [List.map_toArray, List.map_cons, List.map_nil]); first | done | rfl | (simp only [List.length_drop, List.length_take]; rfl)) ?_
                                    with_reducible refine (calamuslaw01_Two_own.calls a0_0 a0_1 t208 t209 _ A5.out).mono ?_
                                    rintro e w36 ⟨rfl, hb⟩
                                    refine ⟨_, rfl, ?_⟩
                                    have n0_ := Aside0.mk (blk_below (g := gb205) (o := .cells #[.int .i64 a0_0, .int .u64 a0_1] 24 (0, 0)) (by (with_reducible repeat (first | refine blk_drewN ?_ _ | refine blk_alloc ?_ _)); exact BK205.out) hb)
                                    have n1_ := Aside0.mk (blk_below (g := gb206) (o := .cells #[.int .i64 a1_0, .int .u64 a1_1] 24 (0, 0)) (by (with_reducible repeat (first | refine blk_drewN ?_ _ | refine blk_alloc ?_ _)); exact BK206.out) hb)
                                    have n2_ := Aside0.mk (below_step (by repeat (first | (with_reducible first | exact HB.out | apply below_alloc | apply pw_below_drewN | apply below_drew1 | refine below_set ?_ GE205.out | refine below_set ?_ GE206.out) | exact HB.out)) hb)
                                    clear BK205
                                    clear BK206
                                    clear HB
                                    have BK205 := n0_
                                    have BK206 := n1_
                                    have HB := n2_
                                    clear n0_ n1_ n2_
                                    (try clear hb)
                                    (try clear hb2)
                                    (try clear hk)
                                    (try clear hi)
                                    refine hK.out _ _ ⟨(blk_cell BK205.out 0).trans rfl, (blk_cell BK205.out 1).trans rfl, (blk_cell BK206.out 0).trans rfl, (blk_cell BK206.out 1).trans rfl⟩ (fun hHeld => ?_)
                                    clear hK K
                                    refine norm_ (a' := ?_) ?_ ?_
                                    rotate_left
                                    · show Act.put _ (some 10) _ = _
                                      simp only [Act.put, List.setIfInBounds_toArray, List.set_cons_zero, List.set_cons_succ, i64_w, i32_w]
                                      rfl
                                    exact norm_ (by first | (simp only [putAll, Act.put, List.setIfInBounds_toArray, List.set_cons_zero, List.set_cons_succ]; done) | (simp only [putAll, Act.put, List.setIfInBounds_toArray, List.set_cons_zero, List.set_cons_succ]; rfl)) (hJ1 () _ ⟨hHeld, (by (with_reducible repeat (first | refine blk_drewN ?_ _ | refine blk_alloc ?_ _)); exact BK205.out), (by (with_reducible repeat (first | refine blk_drewN ?_ _ | refine blk_alloc ?_ _)); exact BK206.out), (by repeat (first | (with_reducible first | exact HB.out | apply below_alloc | apply pw_below_drewN | apply below_drew1 | refine below_set ?_ GE205.out | refine below_set ?_ GE206.out) | exact HB.out))⟩)
                                  · skip
                                    refine box_step ?hg (N := 5) ?hd (cs := #[.int .i64 0, .int .u64 0]) (t := 28) ?hr ?_; (case hd => rfl); (case hg => rfl); (case hr => first | (go_simp; done) | (go_simp; rfl))
                                    intro gb212 hg w36 hbox hb
                                    have n0_ := Aside0.mk (blk_below (g := gb205) (o := .cells #[.int .i64 a0_0, .int .u64 a0_1] 24 (0, 0)) (by (with_reducible repeat (first | refine blk_drewN ?_ _ | refine blk_alloc ?_ _)); exact BK205.out) hb)
                                    have n1_ := Aside0.mk (blk_below (g := gb206) (o := .cells #[.int .i64 a1_0, .int .u64 a1_1] 24 (0, 0)) (by (with_reducible repeat (first | refine blk_drewN ?_ _ | refine blk_alloc ?_ _)); exact BK206.out) hb)
                                    have n2_ := Aside0.mk (below_step (by repeat (first | (with_reducible first | exact HB.out | apply below_alloc | apply pw_below_drewN | apply below_drew1 | refine below_set ?_ GE205.out | refine below_set ?_ GE206.out) | exact HB.out)) hb)
                                    have n3_ := Aside0.mk (hbox)
                                    have n4_ := Aside0.mk ((by rw [hg]; exact (below_size (by repeat (first | (with_reducible first | exact HB.out | apply below_alloc | apply pw_below_drewN | apply below_drew1 | refine below_set ?_ GE205.out | refine below_set ?_ GE206.out) | exact HB.out))) : w.heap.size ≤ gb212))
                                    have n5_ := Aside0.mk ((by rw [hg]; exact (below_size (by repeat (first | (with_reducible first | exact HB.out | apply below_alloc | apply pw_below_drewN | apply below_drew1 | refine below_set ?_ GE205.out | refine below_set ?_ GE206.out) | exact HB.out))) : w.heap.size ≤ gb212))
                                    have n6_ := Aside0.mk ((by rw [hg]; exact Nat.ne_of_lt (blk_lt (g := gb205) (o := .cells #[.int .i64 a0_0, .int .u64 a0_1] 24 (0, 0)) (by (with_reducible repeat (first | refine blk_drewN ?_ _ | refine blk_alloc ?_ _)); exact BK205.out)) : gb205 ≠ gb212))
                                    have n7_ := Aside0.mk ((by rw [hg]; exact Nat.ne_of_gt (blk_lt (g := gb205) (o := .cells #[.int .i64 a0_0, .int .u64 a0_1] 24 (0, 0)) (by (with_reducible repeat (first | refine blk_drewN ?_ _ | refine blk_alloc ?_ _)); exact BK205.out)) : gb212 ≠ gb205))
                                    have n8_ := Aside0.mk ((by rw [hg]; exact Nat.ne_of_lt (blk_lt (g := gb206) (o := .cells #[.int .i64 a1_0, .int .u64 a1_1] 24 (0, 0)) (by (with_reducible repeat (first | refine blk_drewN ?_ _ | refine blk_alloc ?_ _)); exact BK206.out)) : gb206 ≠ gb212))
                                    have n9_ := Aside0.mk ((by rw [hg]; exact Nat.ne_of_gt (blk_lt (g := gb206) (o := .cells #[.int .i64 a1_0, .int .u64 a1_1] 24 (0, 0)) (by (with_reducible repeat (first | refine blk_drewN ?_ _ | refine blk_alloc ?_ _)); exact BK206.out)) : gb212 ≠ gb206))
                                    clear BK205
                                    clear BK206
                                    clear HB
                                    have BK205 := n0_
                                    have BK206 := n1_
                                    have HB := n2_
                                    have BK212 := n3_
                                    have GW212 := n4_
                                    have GE212 := n5_
                                    have NB205_212 := n6_
                                    have NB212_205 := n7_
                                    have NB206_212 := n8_
                                    have NB212_206 := n9_
                                    clear n0_ n1_ n2_ n3_ n4_ n5_ n6_ n7_ n8_ n9_
                                    clear hb hbox hg
                                    refine hK.out _ _ ⟨(blk_cell BK205.out 0).trans rfl, (blk_cell BK205.out 1).trans rfl, (blk_cell BK206.out 0).trans rfl, (blk_cell BK206.out 1).trans rfl⟩ (fun hHeld => ?_)
                                    clear hK K
                                    refine norm_ (a' := ?_) ?_ ?_
                                    rotate_left
                                    · show Act.put _ (some 5) _ = _
                                      simp only [Act.put, List.setIfInBounds_toArray, List.set_cons_zero, List.set_cons_succ, i64_w, i32_w]
                                      rfl
                                    exact norm_ (by first | (simp only [putAll, Act.put, List.setIfInBounds_toArray, List.set_cons_zero, List.set_cons_succ]; done) | (simp only [putAll, Act.put, List.setIfInBounds_toArray, List.set_cons_zero, List.set_cons_succ]; rfl)) (hJ4 (gb212) _ ⟨hHeld, (by (with_reducible repeat (first | refine blk_drewN ?_ _ | refine blk_alloc ?_ _)); exact BK205.out), (by (with_reducible repeat (first | refine blk_drewN ?_ _ | refine blk_alloc ?_ _)); exact BK206.out), (by (with_reducible repeat (first | refine blk_drewN ?_ _ | refine blk_alloc ?_ _)); exact BK212.out), GW212.out, GE212.out, NB205_212.out, NB212_205.out, NB206_212.out, NB212_206.out, (by repeat (first | (with_reducible first | exact HB.out | apply below_alloc | apply pw_below_drewN | apply below_drew1 | refine below_set ?_ GE205.out | refine below_set ?_ GE206.out | refine below_set ?_ GE212.out) | exact HB.out))⟩)
                                  · skip
                                    refine box_step ?hg (N := 6) ?hd (cs := #[.int .i64 0, .int .u64 0]) (t := 28) ?hr ?_; (case hd => rfl); (case hg => rfl); (case hr => first | (go_simp; done) | (go_simp; rfl))
                                    intro gb213 hg w36 hbox hb
                                    have n0_ := Aside0.mk (blk_below (g := gb205) (o := .cells #[.int .i64 a0_0, .int .u64 a0_1] 24 (0, 0)) (by (with_reducible repeat (first | refine blk_drewN ?_ _ | refine blk_alloc ?_ _)); exact BK205.out) hb)
                                    have n1_ := Aside0.mk (blk_below (g := gb206) (o := .cells #[.int .i64 a1_0, .int .u64 a1_1] 24 (0, 0)) (by (with_reducible repeat (first | refine blk_drewN ?_ _ | refine blk_alloc ?_ _)); exact BK206.out) hb)
                                    have n2_ := Aside0.mk (below_step (by repeat (first | (with_reducible first | exact HB.out | apply below_alloc | apply pw_below_drewN | apply below_drew1 | refine below_set ?_ GE205.out | refine below_set ?_ GE206.out) | exact HB.out)) hb)
                                    have n3_ := Aside0.mk (hbox)
                                    have n4_ := Aside0.mk ((by rw [hg]; exact (below_size (by repeat (first | (with_reducible first | exact HB.out | apply below_alloc | apply pw_below_drewN | apply below_drew1 | refine below_set ?_ GE205.out | refine below_set ?_ GE206.out) | exact HB.out))) : w.heap.size ≤ gb213))
                                    have n5_ := Aside0.mk ((by rw [hg]; exact (below_size (by repeat (first | (with_reducible first | exact HB.out | apply below_alloc | apply pw_below_drewN | apply below_drew1 | refine below_set ?_ GE205.out | refine below_set ?_ GE206.out) | exact HB.out))) : w.heap.size ≤ gb213))
                                    have n6_ := Aside0.mk ((by rw [hg]; exact Nat.ne_of_lt (blk_lt (g := gb205) (o := .cells #[.int .i64 a0_0, .int .u64 a0_1] 24 (0, 0)) (by (with_reducible repeat (first | refine blk_drewN ?_ _ | refine blk_alloc ?_ _)); exact BK205.out)) : gb205 ≠ gb213))
                                    have n7_ := Aside0.mk ((by rw [hg]; exact Nat.ne_of_gt (blk_lt (g := gb205) (o := .cells #[.int .i64 a0_0, .int .u64 a0_1] 24 (0, 0)) (by (with_reducible repeat (first | refine blk_drewN ?_ _ | refine blk_alloc ?_ _)); exact BK205.out)) : gb213 ≠ gb205))
                                    have n8_ := Aside0.mk ((by rw [hg]; exact Nat.ne_of_lt (blk_lt (g := gb206) (o := .cells #[.int .i64 a1_0, .int .u64 a1_1] 24 (0, 0)) (by (with_reducible repeat (first | refine blk_drewN ?_ _ | refine blk_alloc ?_ _)); exact BK206.out)) : gb206 ≠ gb213))
                                    have n9_ := Aside0.mk ((by rw [hg]; exact Nat.ne_of_gt (blk_lt (g := gb206) (o := .cells #[.int .i64 a1_0, .int .u64 a1_1] 24 (0, 0)) (by (with_reducible repeat (first | refine blk_drewN ?_ _ | refine blk_alloc ?_ _)); exact BK206.out)) : gb213 ≠ gb206))
                                    clear BK205
                                    clear BK206
                                    clear HB
                                    have BK205 := n0_
                                    have BK206 := n1_
                                    have HB := n2_
                                    have BK213 := n3_
                                    have GW213 := n4_
                                    have GE213 := n5_
                                    have NB205_213 := n6_
                                    have NB213_205 := n7_
                                    have NB206_213 := n8_
                                    have NB213_206 := n9_
                                    clear n0_ n1_ n2_ n3_ n4_ n5_ n6_ n7_ n8_ n9_
                                    clear hb hbox hg
                                    refine hK.out _ _ ⟨(blk_cell BK205.out 0).trans rfl, (blk_cell BK205.out 1).trans rfl, (blk_cell BK206.out 0).trans rfl, (blk_cell BK206.out 1).trans rfl⟩ (fun hHeld => ?_)
                                    clear hK K
                                    refine norm_ (a' := ?_) ?_ ?_
                                    rotate_left
                                    · show Act.put _ (some 6) _ = _
                                      simp only [Act.put, List.setIfInBounds_toArray, List.set_cons_zero, List.set_cons_succ, i64_w, i32_w]
                                      rfl
                                    exact norm_ (by first | (simp only [putAll, Act.put, List.setIfInBounds_toArray, List.set_cons_zero, List.set_cons_succ]; done) | (simp only [putAll, Act.put, List.setIfInBounds_toArray, List.set_cons_zero, List.set_cons_succ]; rfl)) (hJ5 (gb213) _ ⟨hHeld, (by (with_reducible repeat (first | refine blk_drewN ?_ _ | refine blk_alloc ?_ _)); exact BK205.out), (by (with_reducible repeat (first | refine blk_drewN ?_ _ | refine blk_alloc ?_ _)); exact BK206.out), (by (with_reducible repeat (first | refine blk_drewN ?_ _ | refine blk_alloc ?_ _)); exact BK213.out), GW213.out, GE213.out, NB205_213.out, NB213_205.out, NB206_213.out, NB213_206.out, (by repeat (first | (with_reducible first | exact HB.out | apply below_alloc | apply pw_below_drewN | apply below_drew1 | refine below_set ?_ GE205.out | refine below_set ?_ GE206.out | refine below_set ?_ GE213.out) | exact HB.out))⟩)
                                · skip
                                  rintro gb213 w37 ⟨hS_, h0_, h1_, h2_, h3_, h4_, h5_, h6_, h7_, h8_, h9_⟩
                                  have n0_ : Aside0 (w37.heap[gb205]? = some (.cells #[.int .i64 a0_0, .int .u64 a0_1] 24 (0, 0))) := ⟨h0_⟩
                                  have n1_ : Aside0 (w37.heap[gb206]? = some (.cells #[.int .i64 a1_0, .int .u64 a1_1] 24 (0, 0))) := ⟨h1_⟩
                                  have n2_ : Aside0 (w37.heap[gb213]? = some (.cells #[.int .i64 0, .int .u64 0] 28 (0, 0))) := ⟨h2_⟩
                                  have n3_ : Aside0 (w.heap.size ≤ gb213) := ⟨h3_⟩
                                  have n4_ : Aside0 (w.heap.size ≤ gb213) := ⟨h4_⟩
                                  have n5_ : Aside0 (gb205 ≠ gb213) := ⟨h5_⟩
                                  have n6_ : Aside0 (gb213 ≠ gb205) := ⟨h6_⟩
                                  have n7_ : Aside0 (gb206 ≠ gb213) := ⟨h7_⟩
                                  have n8_ : Aside0 (gb213 ≠ gb206) := ⟨h8_⟩
                                  have n9_ : Aside0 (Below w.heap.size w w37) := ⟨h9_⟩
                                  clear BK205
                                  clear BK206
                                  clear HB
                                  clear h0_ h1_ h2_ h3_ h4_ h5_ h6_ h7_ h8_ h9_
                                  have BK205 := n0_
                                  have BK206 := n1_
                                  have BK213 := n2_
                                  have GW213 := n3_
                                  have GE213 := n4_
                                  have NB205_213 := n5_
                                  have NB213_205 := n6_
                                  have NB206_213 := n7_
                                  have NB213_206 := n8_
                                  have HB := n9_
                                  clear n0_ n1_ n2_ n3_ n4_ n5_ n6_ n7_ n8_ n9_
                                  have hHeld : w37.cell? ⟨gb205, 0, none⟩ = some (.int .i64 a0_0) ∧ w37.cell? ⟨gb205, 1, none⟩ = some (.int .u64 a0_1) ∧ w37.cell? ⟨gb206, 0, none⟩ = some (.int .i64 a1_0) ∧ w37.cell? ⟨gb206, 1, none⟩ = some (.int .u64 a1_1) := hS_
                                  refine norm_ (a' := ?_) ?_ ?_
                                  rotate_left
                                  · simp only [putAll, Act.put, List.setIfInBounds_toArray, List.set_cons_zero, List.set_cons_succ]
                                    rfl
                                  refine two_ (i := 1) (j := 4) (Ni := some 10) (Nj := some 5) #[true, true, true, false, false, true, false, false] #[true, false, true, false, true, true, false, false] rfl rfl rfl rfl (two_of HT_.out (by kernel_rfl)) (by decide) (by decide) (fun K hK => ?_) (fun K hK => ?_)
                                  · skip
                                    refine goes_ Try.func17 (by kernel_rfl) rfl #[.agg #[.int .i64 a0_0, .int .u64 a0_1]] (by rfl) rfl rfl (by (try simp only [List.map_toArray, List.map_cons, List.map_nil]); first | done | rfl | (simp only [List.length_drop, List.length_take]; rfl)) ?_
                                    with_reducible refine (calamuslaw01_Two_own.calls a0_0 a0_1 t208 t209 _ A5.out).mono ?_
                                    rintro e w38 ⟨rfl, hb⟩
                                    refine ⟨_, rfl, ?_⟩
                                    have n0_ := Aside0.mk (blk_below (g := gb205) (o := .cells #[.int .i64 a0_0, .int .u64 a0_1] 24 (0, 0)) (by (with_reducible repeat (first | refine blk_drewN ?_ _ | refine blk_alloc ?_ _)); exact BK205.out) hb)
                                    have n1_ := Aside0.mk (blk_below (g := gb206) (o := .cells #[.int .i64 a1_0, .int .u64 a1_1] 24 (0, 0)) (by (with_reducible repeat (first | refine blk_drewN ?_ _ | refine blk_alloc ?_ _)); exact BK206.out) hb)
                                    have n2_ := Aside0.mk (blk_below (g := gb213) (o := .cells #[.int .i64 0, .int .u64 0] 28 (0, 0)) (by (with_reducible repeat (first | refine blk_drewN ?_ _ | refine blk_alloc ?_ _)); exact BK213.out) hb)
                                    have n3_ := Aside0.mk (below_step (by repeat (first | (with_reducible first | exact HB.out | apply below_alloc | apply pw_below_drewN | apply below_drew1 | refine below_set ?_ GE205.out | refine below_set ?_ GE206.out | refine below_set ?_ GE213.out) | exact HB.out)) hb)
                                    clear BK205
                                    clear BK206
                                    clear BK213
                                    clear HB
                                    have BK205 := n0_
                                    have BK206 := n1_
                                    have BK213 := n2_
                                    have HB := n3_
                                    clear n0_ n1_ n2_ n3_
                                    (try clear hb)
                                    (try clear hb2)
                                    (try clear hk)
                                    (try clear hi)
                                    refine hK.out _ _ ⟨(blk_cell BK205.out 0).trans rfl, (blk_cell BK205.out 1).trans rfl, (blk_cell BK206.out 0).trans rfl, (blk_cell BK206.out 1).trans rfl⟩ (fun hHeld => ?_)
                                    clear hK K
                                    refine norm_ (a' := ?_) ?_ ?_
                                    rotate_left
                                    · show Act.put _ (some 10) _ = _
                                      simp only [Act.put, List.setIfInBounds_toArray, List.set_cons_zero, List.set_cons_succ, i64_w, i32_w]
                                      rfl
                                    exact norm_ (by first | (simp only [putAll, Act.put, List.setIfInBounds_toArray, List.set_cons_zero, List.set_cons_succ]; done) | (simp only [putAll, Act.put, List.setIfInBounds_toArray, List.set_cons_zero, List.set_cons_succ]; rfl)) (hJ1_5 (gb213) _ ⟨hHeld, (by (with_reducible repeat (first | refine blk_drewN ?_ _ | refine blk_alloc ?_ _)); exact BK205.out), (by (with_reducible repeat (first | refine blk_drewN ?_ _ | refine blk_alloc ?_ _)); exact BK206.out), (by (with_reducible repeat (first | refine blk_drewN ?_ _ | refine blk_alloc ?_ _)); exact BK213.out), GW213.out, GE213.out, NB205_213.out, NB213_205.out, NB206_213.out, NB213_206.out, (by repeat (first | (with_reducible first | exact HB.out | apply below_alloc | apply pw_below_drewN | apply below_drew1 | refine below_set ?_ GE205.out | refine below_set ?_ GE206.out | refine below_set ?_ GE213.out) | exact HB.out))⟩)
                                  · skip
                                    refine box_step ?hg (N := 5) ?hd (cs := #[.int .i64 0, .int .u64 0]) (t := 28) ?hr ?_; (case hd => rfl); (case hg => rfl); (case hr => first | (go_simp; done) | (go_simp; rfl))
                                    intro gb212 hg w38 hbox hb
                                    have n0_ := Aside0.mk (blk_below (g := gb205) (o := .cells #[.int .i64 a0_0, .int .u64 a0_1] 24 (0, 0)) (by (with_reducible repeat (first | refine blk_drewN ?_ _ | refine blk_alloc ?_ _)); exact BK205.out) hb)
                                    have n1_ := Aside0.mk (blk_below (g := gb206) (o := .cells #[.int .i64 a1_0, .int .u64 a1_1] 24 (0, 0)) (by (with_reducible repeat (first | refine blk_drewN ?_ _ | refine blk_alloc ?_ _)); exact BK206.out) hb)
                                    have n2_ := Aside0.mk (blk_below (g := gb213) (o := .cells #[.int .i64 0, .int .u64 0] 28 (0, 0)) (by (with_reducible repeat (first | refine blk_drewN ?_ _ | refine blk_alloc ?_ _)); exact BK213.out) hb)
                                    have n3_ := Aside0.mk (below_step (by repeat (first | (with_reducible first | exact HB.out | apply below_alloc | apply pw_below_drewN | apply below_drew1 | refine below_set ?_ GE205.out | refine below_set ?_ GE206.out | refine below_set ?_ GE213.out) | exact HB.out)) hb)
                                    have n4_ := Aside0.mk (hbox)
                                    have n5_ := Aside0.mk ((by rw [hg]; exact (below_size (by repeat (first | (with_reducible first | exact HB.out | apply below_alloc | apply pw_below_drewN | apply below_drew1 | refine below_set ?_ GE205.out | refine below_set ?_ GE206.out | refine below_set ?_ GE213.out) | exact HB.out))) : w.heap.size ≤ gb212))
                                    have n6_ := Aside0.mk ((by rw [hg]; exact (below_size (by repeat (first | (with_reducible first | exact HB.out | apply below_alloc | apply pw_below_drewN | apply below_drew1 | refine below_set ?_ GE205.out | refine below_set ?_ GE206.out | refine below_set ?_ GE213.out) | exact HB.out))) : w.heap.size ≤ gb212))
                                    have n7_ := Aside0.mk ((by rw [hg]; exact Nat.ne_of_lt (blk_lt (g := gb205) (o := .cells #[.int .i64 a0_0, .int .u64 a0_1] 24 (0, 0)) (by (with_reducible repeat (first | refine blk_drewN ?_ _ | refine blk_alloc ?_ _)); exact BK205.out)) : gb205 ≠ gb212))
                                    have n8_ := Aside0.mk ((by rw [hg]; exact Nat.ne_of_gt (blk_lt (g := gb205) (o := .cells #[.int .i64 a0_0, .int .u64 a0_1] 24 (0, 0)) (by (with_reducible repeat (first | refine blk_drewN ?_ _ | refine blk_alloc ?_ _)); exact BK205.out)) : gb212 ≠ gb205))
                                    have n9_ := Aside0.mk ((by rw [hg]; exact Nat.ne_of_lt (blk_lt (g := gb206) (o := .cells #[.int .i64 a1_0, .int .u64 a1_1] 24 (0, 0)) (by (with_reducible repeat (first | refine blk_drewN ?_ _ | refine blk_alloc ?_ _)); exact BK206.out)) : gb206 ≠ gb212))
                                    have n10_ := Aside0.mk ((by rw [hg]; exact Nat.ne_of_gt (blk_lt (g := gb206) (o := .cells #[.int .i64 a1_0, .int .u64 a1_1] 24 (0, 0)) (by (with_reducible repeat (first | refine blk_drewN ?_ _ | refine blk_alloc ?_ _)); exact BK206.out)) : gb212 ≠ gb206))
                                    have n11_ := Aside0.mk ((by rw [hg]; exact Nat.ne_of_lt (blk_lt (g := gb213) (o := .cells #[.int .i64 0, .int .u64 0] 28 (0, 0)) (by (with_reducible repeat (first | refine blk_drewN ?_ _ | refine blk_alloc ?_ _)); exact BK213.out)) : gb213 ≠ gb212))
                                    have n12_ := Aside0.mk ((by rw [hg]; exact Nat.ne_of_gt (blk_lt (g := gb213) (o := .cells #[.int .i64 0, .int .u64 0] 28 (0, 0)) (by (with_reducible repeat (first | refine blk_drewN ?_ _ | refine blk_alloc ?_ _)); exact BK213.out)) : gb212 ≠ gb213))
                                    clear BK205
                                    clear BK206
                                    clear BK213
                                    clear HB
                                    have BK205 := n0_
                                    have BK206 := n1_
                                    have BK213 := n2_
                                    have HB := n3_
                                    have BK212 := n4_
                                    have GW212 := n5_
                                    have GE212 := n6_
                                    have NB205_212 := n7_
                                    have NB212_205 := n8_
                                    have NB206_212 := n9_
                                    have NB212_206 := n10_
                                    have NB213_212 := n11_
                                    have NB212_213 := n12_
                                    clear n0_ n1_ n2_ n3_ n4_ n5_ n6_ n7_ n8_ n9_ n10_ n11_ n12_
                                    clear hb hbox hg
                                    refine hK.out _ _ ⟨(blk_cell BK205.out 0).trans rfl, (blk_cell BK205.out 1).trans rfl, (blk_cell BK206.out 0).trans rfl, (blk_cell BK206.out 1).trans rfl⟩ (fun hHeld => ?_)
                                    clear hK K
                                    refine norm_ (a' := ?_) ?_ ?_
                                    rotate_left
                                    · show Act.put _ (some 5) _ = _
                                      simp only [Act.put, List.setIfInBounds_toArray, List.set_cons_zero, List.set_cons_succ, i64_w, i32_w]
                                      rfl
                                    exact norm_ (by first | (simp only [putAll, Act.put, List.setIfInBounds_toArray, List.set_cons_zero, List.set_cons_succ]; done) | (simp only [putAll, Act.put, List.setIfInBounds_toArray, List.set_cons_zero, List.set_cons_succ]; rfl)) (hJ4_5 (gb212, gb213) _ ⟨hHeld, (by (with_reducible repeat (first | refine blk_drewN ?_ _ | refine blk_alloc ?_ _)); exact BK205.out), (by (with_reducible repeat (first | refine blk_drewN ?_ _ | refine blk_alloc ?_ _)); exact BK206.out), (by (with_reducible repeat (first | refine blk_drewN ?_ _ | refine blk_alloc ?_ _)); exact BK212.out), (by (with_reducible repeat (first | refine blk_drewN ?_ _ | refine blk_alloc ?_ _)); exact BK213.out), GW212.out, GE212.out, NB205_212.out, NB212_205.out, NB206_212.out, NB212_206.out, NB213_212.out, NB212_213.out, GW213.out, GE213.out, NB205_213.out, NB213_205.out, NB206_213.out, NB213_206.out, (by repeat (first | (with_reducible first | exact HB.out | apply below_alloc | apply pw_below_drewN | apply below_drew1 | refine below_set ?_ GE205.out | refine below_set ?_ GE206.out | refine below_set ?_ GE213.out | refine below_set ?_ GE212.out) | exact HB.out))⟩)
                              · skip
                                rintro gb212 w37 ⟨hS_, h0_, h1_, h2_, h3_, h4_, h5_, h6_, h7_, h8_, h9_⟩
                                have n0_ : Aside0 (w37.heap[gb205]? = some (.cells #[.int .i64 a0_0, .int .u64 a0_1] 24 (0, 0))) := ⟨h0_⟩
                                have n1_ : Aside0 (w37.heap[gb206]? = some (.cells #[.int .i64 a1_0, .int .u64 a1_1] 24 (0, 0))) := ⟨h1_⟩
                                have n2_ : Aside0 (w37.heap[gb212]? = some (.cells #[.int .i64 0, .int .u64 0] 28 (0, 0))) := ⟨h2_⟩
                                have n3_ : Aside0 (w.heap.size ≤ gb212) := ⟨h3_⟩
                                have n4_ : Aside0 (w.heap.size ≤ gb212) := ⟨h4_⟩
                                have n5_ : Aside0 (gb205 ≠ gb212) := ⟨h5_⟩
                                have n6_ : Aside0 (gb212 ≠ gb205) := ⟨h6_⟩
                                have n7_ : Aside0 (gb206 ≠ gb212) := ⟨h7_⟩
                                have n8_ : Aside0 (gb212 ≠ gb206) := ⟨h8_⟩
                                have n9_ : Aside0 (Below w.heap.size w w37) := ⟨h9_⟩
                                clear BK205
                                clear BK206
                                clear HB
                                clear h0_ h1_ h2_ h3_ h4_ h5_ h6_ h7_ h8_ h9_
                                have BK205 := n0_
                                have BK206 := n1_
                                have BK212 := n2_
                                have GW212 := n3_
                                have GE212 := n4_
                                have NB205_212 := n5_
                                have NB212_205 := n6_
                                have NB206_212 := n7_
                                have NB212_206 := n8_
                                have HB := n9_
                                clear n0_ n1_ n2_ n3_ n4_ n5_ n6_ n7_ n8_ n9_
                                have hHeld : w37.cell? ⟨gb205, 0, none⟩ = some (.int .i64 a0_0) ∧ w37.cell? ⟨gb205, 1, none⟩ = some (.int .u64 a0_1) ∧ w37.cell? ⟨gb206, 0, none⟩ = some (.int .i64 a1_0) ∧ w37.cell? ⟨gb206, 1, none⟩ = some (.int .u64 a1_1) := hS_
                                refine norm_ (a' := ?_) ?_ ?_
                                rotate_left
                                · simp only [putAll, Act.put, List.setIfInBounds_toArray, List.set_cons_zero, List.set_cons_succ]
                                  rfl
                                refine two_ (i := 1) (j := 5) (Ni := some 10) (Nj := some 6) #[true, true, true, false, true, false, false, false] #[true, false, true, false, true, true, false, false] rfl rfl rfl rfl (two_of HT_.out (by kernel_rfl)) (by decide) (by decide) (fun K hK => ?_) (fun K hK => ?_)
                                · skip
                                  refine goes_ Try.func17 (by kernel_rfl) rfl #[.agg #[.int .i64 a0_0, .int .u64 a0_1]] (by rfl) rfl rfl (by (try simp only [List.map_toArray, List.map_cons, List.map_nil]); first | done | rfl | (simp only [List.length_drop, List.length_take]; rfl)) ?_
                                  with_reducible refine (calamuslaw01_Two_own.calls a0_0 a0_1 t208 t209 _ A5.out).mono ?_
                                  rintro e w38 ⟨rfl, hb⟩
                                  refine ⟨_, rfl, ?_⟩
                                  have n0_ := Aside0.mk (blk_below (g := gb205) (o := .cells #[.int .i64 a0_0, .int .u64 a0_1] 24 (0, 0)) (by (with_reducible repeat (first | refine blk_drewN ?_ _ | refine blk_alloc ?_ _)); exact BK205.out) hb)
                                  have n1_ := Aside0.mk (blk_below (g := gb206) (o := .cells #[.int .i64 a1_0, .int .u64 a1_1] 24 (0, 0)) (by (with_reducible repeat (first | refine blk_drewN ?_ _ | refine blk_alloc ?_ _)); exact BK206.out) hb)
                                  have n2_ := Aside0.mk (blk_below (g := gb212) (o := .cells #[.int .i64 0, .int .u64 0] 28 (0, 0)) (by (with_reducible repeat (first | refine blk_drewN ?_ _ | refine blk_alloc ?_ _)); exact BK212.out) hb)
                                  have n3_ := Aside0.mk (below_step (by repeat (first | (with_reducible first | exact HB.out | apply below_alloc | apply pw_below_drewN | apply below_drew1 | refine below_set ?_ GE205.out | refine below_set ?_ GE206.out | refine below_set ?_ GE212.out) | exact HB.out)) hb)
                                  clear BK205
                                  clear BK206
                                  clear BK212
                                  clear HB
                                  have BK205 := n0_
                                  have BK206 := n1_
                                  have BK212 := n2_
                                  have HB := n3_
                                  clear n0_ n1_ n2_ n3_
                                  (try clear hb)
                                  (try clear hb2)
                                  (try clear hk)
                                  (try clear hi)
                                  refine hK.out _ _ ⟨(blk_cell BK205.out 0).trans rfl, (blk_cell BK205.out 1).trans rfl, (blk_cell BK206.out 0).trans rfl, (blk_cell BK206.out 1).trans rfl⟩ (fun hHeld => ?_)
                                  clear hK K
                                  refine norm_ (a' := ?_) ?_ ?_
                                  rotate_left
                                  · show Act.put _ (some 10) _ = _
                                    simp only [Act.put, List.setIfInBounds_toArray, List.set_cons_zero, List.set_cons_succ, i64_w, i32_w]
                                    rfl
                                  exact norm_ (by first | (simp only [putAll, Act.put, List.setIfInBounds_toArray, List.set_cons_zero, List.set_cons_succ]; done) | (simp only [putAll, Act.put, List.setIfInBounds_toArray, List.set_cons_zero, List.set_cons_succ]; rfl)) (hJ1_4 (gb212) _ ⟨hHeld, (by (with_reducible repeat (first | refine blk_drewN ?_ _ | refine blk_alloc ?_ _)); exact BK205.out), (by (with_reducible repeat (first | refine blk_drewN ?_ _ | refine blk_alloc ?_ _)); exact BK206.out), (by (with_reducible repeat (first | refine blk_drewN ?_ _ | refine blk_alloc ?_ _)); exact BK212.out), GW212.out, GE212.out, NB205_212.out, NB212_205.out, NB206_212.out, NB212_206.out, (by repeat (first | (with_reducible first | exact HB.out | apply below_alloc | apply pw_below_drewN | apply below_drew1 | refine below_set ?_ GE205.out | refine below_set ?_ GE206.out | refine below_set ?_ GE212.out) | exact HB.out))⟩)
                                · skip
                                  refine box_step ?hg (N := 6) ?hd (cs := #[.int .i64 0, .int .u64 0]) (t := 28) ?hr ?_; (case hd => rfl); (case hg => rfl); (case hr => first | (go_simp; done) | (go_simp; rfl))
                                  intro gb213 hg w38 hbox hb
                                  have n0_ := Aside0.mk (blk_below (g := gb205) (o := .cells #[.int .i64 a0_0, .int .u64 a0_1] 24 (0, 0)) (by (with_reducible repeat (first | refine blk_drewN ?_ _ | refine blk_alloc ?_ _)); exact BK205.out) hb)
                                  have n1_ := Aside0.mk (blk_below (g := gb206) (o := .cells #[.int .i64 a1_0, .int .u64 a1_1] 24 (0, 0)) (by (with_reducible repeat (first | refine blk_drewN ?_ _ | refine blk_alloc ?_ _)); exact BK206.out) hb)
                                  have n2_ := Aside0.mk (blk_below (g := gb212) (o := .cells #[.int .i64 0, .int .u64 0] 28 (0, 0)) (by (with_reducible repeat (first | refine blk_drewN ?_ _ | refine blk_alloc ?_ _)); exact BK212.out) hb)
                                  have n3_ := Aside0.mk (below_step (by repeat (first | (with_reducible first | exact HB.out | apply below_alloc | apply pw_below_drewN | apply below_drew1 | refine below_set ?_ GE205.out | refine below_set ?_ GE206.out | refine below_set ?_ GE212.out) | exact HB.out)) hb)
                                  have n4_ := Aside0.mk (hbox)
                                  have n5_ := Aside0.mk ((by rw [hg]; exact (below_size (by repeat (first | (with_reducible first | exact HB.out | apply below_alloc | apply pw_below_drewN | apply below_drew1 | refine below_set ?_ GE205.out | refine below_set ?_ GE206.out | refine below_set ?_ GE212.out) | exact HB.out))) : w.heap.size ≤ gb213))
                                  have n6_ := Aside0.mk ((by rw [hg]; exact (below_size (by repeat (first | (with_reducible first | exact HB.out | apply below_alloc | apply pw_below_drewN | apply below_drew1 | refine below_set ?_ GE205.out | refine below_set ?_ GE206.out | refine below_set ?_ GE212.out) | exact HB.out))) : w.heap.size ≤ gb213))
                                  have n7_ := Aside0.mk ((by rw [hg]; exact Nat.ne_of_lt (blk_lt (g := gb205) (o := .cells #[.int .i64 a0_0, .int .u64 a0_1] 24 (0, 0)) (by (with_reducible repeat (first | refine blk_drewN ?_ _ | refine blk_alloc ?_ _)); exact BK205.out)) : gb205 ≠ gb213))
                                  have n8_ := Aside0.mk ((by rw [hg]; exact Nat.ne_of_gt (blk_lt (g := gb205) (o := .cells #[.int .i64 a0_0, .int .u64 a0_1] 24 (0, 0)) (by (with_reducible repeat (first | refine blk_drewN ?_ _ | refine blk_alloc ?_ _)); exact BK205.out)) : gb213 ≠ gb205))
                                  have n9_ := Aside0.mk ((by rw [hg]; exact Nat.ne_of_lt (blk_lt (g := gb206) (o := .cells #[.int .i64 a1_0, .int .u64 a1_1] 24 (0, 0)) (by (with_reducible repeat (first | refine blk_drewN ?_ _ | refine blk_alloc ?_ _)); exact BK206.out)) : gb206 ≠ gb213))
                                  have n10_ := Aside0.mk ((by rw [hg]; exact Nat.ne_of_gt (blk_lt (g := gb206) (o := .cells #[.int .i64 a1_0, .int .u64 a1_1] 24 (0, 0)) (by (with_reducible repeat (first | refine blk_drewN ?_ _ | refine blk_alloc ?_ _)); exact BK206.out)) : gb213 ≠ gb206))
                                  have n11_ := Aside0.mk ((by rw [hg]; exact Nat.ne_of_lt (blk_lt (g := gb212) (o := .cells #[.int .i64 0, .int .u64 0] 28 (0, 0)) (by (with_reducible repeat (first | refine blk_drewN ?_ _ | refine blk_alloc ?_ _)); exact BK212.out)) : gb212 ≠ gb213))
                                  have n12_ := Aside0.mk ((by rw [hg]; exact Nat.ne_of_gt (blk_lt (g := gb212) (o := .cells #[.int .i64 0, .int .u64 0] 28 (0, 0)) (by (with_reducible repeat (first | refine blk_drewN ?_ _ | refine blk_alloc ?_ _)); exact BK212.out)) : gb213 ≠ gb212))
                                  clear BK205
                                  clear BK206
                                  clear BK212
                                  clear HB
                                  have BK205 := n0_
                                  have BK206 := n1_
                                  have BK212 := n2_
                                  have HB := n3_
                                  have BK213 := n4_
                                  have GW213 := n5_
                                  have GE213 := n6_
                                  have NB205_213 := n7_
                                  have NB213_205 := n8_
                                  have NB206_213 := n9_
                                  have NB213_206 := n10_
                                  have NB212_213 := n11_
                                  have NB213_212 := n12_
                                  clear n0_ n1_ n2_ n3_ n4_ n5_ n6_ n7_ n8_ n9_ n10_ n11_ n12_
                                  clear hb hbox hg
                                  refine hK.out _ _ ⟨(blk_cell BK205.out 0).trans rfl, (blk_cell BK205.out 1).trans rfl, (blk_cell BK206.out 0).trans rfl, (blk_cell BK206.out 1).trans rfl⟩ (fun hHeld => ?_)
                                  clear hK K
                                  refine norm_ (a' := ?_) ?_ ?_
                                  rotate_left
                                  · show Act.put _ (some 6) _ = _
                                    simp only [Act.put, List.setIfInBounds_toArray, List.set_cons_zero, List.set_cons_succ, i64_w, i32_w]
                                    rfl
                                  exact norm_ (by first | (simp only [putAll, Act.put, List.setIfInBounds_toArray, List.set_cons_zero, List.set_cons_succ]; done) | (simp only [putAll, Act.put, List.setIfInBounds_toArray, List.set_cons_zero, List.set_cons_succ]; rfl)) (hJ4_5 (gb212, gb213) _ ⟨hHeld, (by (with_reducible repeat (first | refine blk_drewN ?_ _ | refine blk_alloc ?_ _)); exact BK205.out), (by (with_reducible repeat (first | refine blk_drewN ?_ _ | refine blk_alloc ?_ _)); exact BK206.out), (by (with_reducible repeat (first | refine blk_drewN ?_ _ | refine blk_alloc ?_ _)); exact BK212.out), (by (with_reducible repeat (first | refine blk_drewN ?_ _ | refine blk_alloc ?_ _)); exact BK213.out), GW212.out, GE212.out, NB205_212.out, NB212_205.out, NB206_212.out, NB212_206.out, NB213_212.out, NB212_213.out, GW213.out, GE213.out, NB205_213.out, NB213_205.out, NB206_213.out, NB213_206.out, (by repeat (first | (with_reducible first | exact HB.out | apply below_alloc | apply pw_below_drewN | apply below_drew1 | refine below_set ?_ GE205.out | refine below_set ?_ GE206.out | refine below_set ?_ GE212.out | refine below_set ?_ GE213.out) | exact HB.out))⟩)
                            · skip
                              rintro _ w37 ⟨hS_, h0_, h1_, h2_⟩
                              have n0_ : Aside0 (w37.heap[gb205]? = some (.cells #[.int .i64 a0_0, .int .u64 a0_1] 24 (0, 0))) := ⟨h0_⟩
                              have n1_ : Aside0 (w37.heap[gb206]? = some (.cells #[.int .i64 a1_0, .int .u64 a1_1] 24 (0, 0))) := ⟨h1_⟩
                              have n2_ : Aside0 (Below w.heap.size w w37) := ⟨h2_⟩
                              clear BK205
                              clear BK206
                              clear HB
                              clear h0_ h1_ h2_
                              have BK205 := n0_
                              have BK206 := n1_
                              have HB := n2_
                              clear n0_ n1_ n2_
                              have hHeld : w37.cell? ⟨gb205, 0, none⟩ = some (.int .i64 a0_0) ∧ w37.cell? ⟨gb205, 1, none⟩ = some (.int .u64 a0_1) ∧ w37.cell? ⟨gb206, 0, none⟩ = some (.int .i64 a1_0) ∧ w37.cell? ⟨gb206, 1, none⟩ = some (.int .u64 a1_1) := hS_
                              refine norm_ (a' := ?_) ?_ ?_
                              rotate_left
                              · simp only [putAll, Act.put, List.setIfInBounds_toArray, List.set_cons_zero, List.set_cons_succ]
                                rfl
                              refine three_ (i := 3) (j := 4) (k := 5) (Ni := some 12) (Nj := some 5) (Nk := some 6) #[true, true, true, true, false, false, false, false] #[true, true, true, false, true, false, false, false] #[true, true, true, false, false, true, false, false] rfl rfl rfl rfl rfl rfl (three_of HT_.out (by kernel_rfl)) (by decide) (by decide) (by decide) (fun K hK => ?_) (fun K hK => ?_) (fun K hK => ?_)
                              · skip
                                refine goes_ Try.func17 (by kernel_rfl) rfl #[.agg #[.int .i64 a1_0, .int .u64 a1_1]] (by rfl) rfl rfl (by (try simp only [List.map_toArray, List.map_cons, List.map_nil]); first | done | rfl | (simp only [List.length_drop, List.length_take]; rfl)) ?_
                                with_reducible refine (calamuslaw01_Two_own.calls a1_0 a1_1 t210 t211 _ A6.out).mono ?_
                                rintro e w38 ⟨rfl, hb⟩
                                refine ⟨_, rfl, ?_⟩
                                have n0_ := Aside0.mk (blk_below (g := gb205) (o := .cells #[.int .i64 a0_0, .int .u64 a0_1] 24 (0, 0)) (by (with_reducible repeat (first | refine blk_drewN ?_ _ | refine blk_alloc ?_ _)); exact BK205.out) hb)
                                have n1_ := Aside0.mk (blk_below (g := gb206) (o := .cells #[.int .i64 a1_0, .int .u64 a1_1] 24 (0, 0)) (by (with_reducible repeat (first | refine blk_drewN ?_ _ | refine blk_alloc ?_ _)); exact BK206.out) hb)
                                have n2_ := Aside0.mk (below_step (by repeat (first | (with_reducible first | exact HB.out | apply below_alloc | apply pw_below_drewN | apply below_drew1 | refine below_set ?_ GE205.out | refine below_set ?_ GE206.out) | exact HB.out)) hb)
                                clear BK205
                                clear BK206
                                clear HB
                                have BK205 := n0_
                                have BK206 := n1_
                                have HB := n2_
                                clear n0_ n1_ n2_
                                (try clear hb)
                                (try clear hb2)
                                (try clear hk)
                                (try clear hi)
                                refine hK.out _ _ ⟨(blk_cell BK205.out 0).trans rfl, (blk_cell BK205.out 1).trans rfl, (blk_cell BK206.out 0).trans rfl, (blk_cell BK206.out 1).trans rfl⟩ (fun hHeld => ?_)
                                clear hK K
                                refine norm_ (a' := ?_) ?_ ?_
                                rotate_left
                                · show Act.put _ (some 12) _ = _
                                  simp only [Act.put, List.setIfInBounds_toArray, List.set_cons_zero, List.set_cons_succ, i64_w, i32_w]
                                  rfl
                                exact norm_ (by first | (simp only [putAll, Act.put, List.setIfInBounds_toArray, List.set_cons_zero, List.set_cons_succ]; done) | (simp only [putAll, Act.put, List.setIfInBounds_toArray, List.set_cons_zero, List.set_cons_succ]; rfl)) (hJ1_3 () _ ⟨hHeld, (by (with_reducible repeat (first | refine blk_drewN ?_ _ | refine blk_alloc ?_ _)); exact BK205.out), (by (with_reducible repeat (first | refine blk_drewN ?_ _ | refine blk_alloc ?_ _)); exact BK206.out), (by repeat (first | (with_reducible first | exact HB.out | apply below_alloc | apply pw_below_drewN | apply below_drew1 | refine below_set ?_ GE205.out | refine below_set ?_ GE206.out) | exact HB.out))⟩)
                              · skip
                                refine box_step ?hg (N := 5) ?hd (cs := #[.int .i64 0, .int .u64 0]) (t := 28) ?hr ?_; (case hd => rfl); (case hg => rfl); (case hr => first | (go_simp; done) | (go_simp; rfl))
                                intro gb212 hg w38 hbox hb
                                have n0_ := Aside0.mk (blk_below (g := gb205) (o := .cells #[.int .i64 a0_0, .int .u64 a0_1] 24 (0, 0)) (by (with_reducible repeat (first | refine blk_drewN ?_ _ | refine blk_alloc ?_ _)); exact BK205.out) hb)
                                have n1_ := Aside0.mk (blk_below (g := gb206) (o := .cells #[.int .i64 a1_0, .int .u64 a1_1] 24 (0, 0)) (by (with_reducible repeat (first | refine blk_drewN ?_ _ | refine blk_alloc ?_ _)); exact BK206.out) hb)
                                have n2_ := Aside0.mk (below_step (by repeat (first | (with_reducible first | exact HB.out | apply below_alloc | apply pw_below_drewN | apply below_drew1 | refine below_set ?_ GE205.out | refine below_set ?_ GE206.out) | exact HB.out)) hb)
                                have n3_ := Aside0.mk (hbox)
                                have n4_ := Aside0.mk ((by rw [hg]; exact (below_size (by repeat (first | (with_reducible first | exact HB.out | apply below_alloc | apply pw_below_drewN | apply below_drew1 | refine below_set ?_ GE205.out | refine below_set ?_ GE206.out) | exact HB.out))) : w.heap.size ≤ gb212))
                                have n5_ := Aside0.mk ((by rw [hg]; exact (below_size (by repeat (first | (with_reducible first | exact HB.out | apply below_alloc | apply pw_below_drewN | apply below_drew1 | refine below_set ?_ GE205.out | refine below_set ?_ GE206.out) | exact HB.out))) : w.heap.size ≤ gb212))
                                have n6_ := Aside0.mk ((by rw [hg]; exact Nat.ne_of_lt (blk_lt (g := gb205) (o := .cells #[.int .i64 a0_0, .int .u64 a0_1] 24 (0, 0)) (by (with_reducible repeat (first | refine blk_drewN ?_ _ | refine blk_alloc ?_ _)); exact BK205.out)) : gb205 ≠ gb212))
                                have n7_ := Aside0.mk ((by rw [hg]; exact Nat.ne_of_gt (blk_lt (g := gb205) (o := .cells #[.int .i64 a0_0, .int .u64 a0_1] 24 (0, 0)) (by (with_reducible repeat (first | refine blk_drewN ?_ _ | refine blk_alloc ?_ _)); exact BK205.out)) : gb212 ≠ gb205))
                                have n8_ := Aside0.mk ((by rw [hg]; exact Nat.ne_of_lt (blk_lt (g := gb206) (o := .cells #[.int .i64 a1_0, .int .u64 a1_1] 24 (0, 0)) (by (with_reducible repeat (first | refine blk_drewN ?_ _ | refine blk_alloc ?_ _)); exact BK206.out)) : gb206 ≠ gb212))
                                have n9_ := Aside0.mk ((by rw [hg]; exact Nat.ne_of_gt (blk_lt (g := gb206) (o := .cells #[.int .i64 a1_0, .int .u64 a1_1] 24 (0, 0)) (by (with_reducible repeat (first | refine blk_drewN ?_ _ | refine blk_alloc ?_ _)); exact BK206.out)) : gb212 ≠ gb206))
                                clear BK205
                                clear BK206
                                clear HB
                                have BK205 := n0_
                                have BK206 := n1_
                                have HB := n2_
                                have BK212 := n3_
                                have GW212 := n4_
                                have GE212 := n5_
                                have NB205_212 := n6_
                                have NB212_205 := n7_
                                have NB206_212 := n8_
                                have NB212_206 := n9_
                                clear n0_ n1_ n2_ n3_ n4_ n5_ n6_ n7_ n8_ n9_
                                clear hb hbox hg
                                refine hK.out _ _ ⟨(blk_cell BK205.out 0).trans rfl, (blk_cell BK205.out 1).trans rfl, (blk_cell BK206.out 0).trans rfl, (blk_cell BK206.out 1).trans rfl⟩ (fun hHeld => ?_)
                                clear hK K
                                refine norm_ (a' := ?_) ?_ ?_
                                rotate_left
                                · show Act.put _ (some 5) _ = _
                                  simp only [Act.put, List.setIfInBounds_toArray, List.set_cons_zero, List.set_cons_succ, i64_w, i32_w]
                                  rfl
                                exact norm_ (by first | (simp only [putAll, Act.put, List.setIfInBounds_toArray, List.set_cons_zero, List.set_cons_succ]; done) | (simp only [putAll, Act.put, List.setIfInBounds_toArray, List.set_cons_zero, List.set_cons_succ]; rfl)) (hJ1_4 (gb212) _ ⟨hHeld, (by (with_reducible repeat (first | refine blk_drewN ?_ _ | refine blk_alloc ?_ _)); exact BK205.out), (by (with_reducible repeat (first | refine blk_drewN ?_ _ | refine blk_alloc ?_ _)); exact BK206.out), (by (with_reducible repeat (first | refine blk_drewN ?_ _ | refine blk_alloc ?_ _)); exact BK212.out), GW212.out, GE212.out, NB205_212.out, NB212_205.out, NB206_212.out, NB212_206.out, (by repeat (first | (with_reducible first | exact HB.out | apply below_alloc | apply pw_below_drewN | apply below_drew1 | refine below_set ?_ GE205.out | refine below_set ?_ GE206.out | refine below_set ?_ GE212.out) | exact HB.out))⟩)
                              · skip
                                refine box_step ?hg (N := 6) ?hd (cs := #[.int .i64 0, .int .u64 0]) (t := 28) ?hr ?_; (case hd => rfl); (case hg => rfl); (case hr => first | (go_simp; done) | (go_simp; rfl))
                                intro gb213 hg w38 hbox hb
                                have n0_ := Aside0.mk (blk_below (g := gb205) (o := .cells #[.int .i64 a0_0, .int .u64 a0_1] 24 (0, 0)) (by (with_reducible repeat (first | refine blk_drewN ?_ _ | refine blk_alloc ?_ _)); exact BK205.out) hb)
                                have n1_ := Aside0.mk (blk_below (g := gb206) (o := .cells #[.int .i64 a1_0, .int .u64 a1_1] 24 (0, 0)) (by (with_reducible repeat (first | refine blk_drewN ?_ _ | refine blk_alloc ?_ _)); exact BK206.out) hb)
                                have n2_ := Aside0.mk (below_step (by repeat (first | (with_reducible first | exact HB.out | apply below_alloc | apply pw_below_drewN | apply below_drew1 | refine below_set ?_ GE205.out | refine below_set ?_ GE206.out) | exact HB.out)) hb)
                                have n3_ := Aside0.mk (hbox)
                                have n4_ := Aside0.mk ((by rw [hg]; exact (below_size (by repeat (first | (with_reducible first | exact HB.out | apply below_alloc | apply pw_below_drewN | apply below_drew1 | refine below_set ?_ GE205.out | refine below_set ?_ GE206.out) | exact HB.out))) : w.heap.size ≤ gb213))
                                have n5_ := Aside0.mk ((by rw [hg]; exact (below_size (by repeat (first | (with_reducible first | exact HB.out | apply below_alloc | apply pw_below_drewN | apply below_drew1 | refine below_set ?_ GE205.out | refine below_set ?_ GE206.out) | exact HB.out))) : w.heap.size ≤ gb213))
                                have n6_ := Aside0.mk ((by rw [hg]; exact Nat.ne_of_lt (blk_lt (g := gb205) (o := .cells #[.int .i64 a0_0, .int .u64 a0_1] 24 (0, 0)) (by (with_reducible repeat (first | refine blk_drewN ?_ _ | refine blk_alloc ?_ _)); exact BK205.out)) : gb205 ≠ gb213))
                                have n7_ := Aside0.mk ((by rw [hg]; exact Nat.ne_of_gt (blk_lt (g := gb205) (o := .cells #[.int .i64 a0_0, .int .u64 a0_1] 24 (0, 0)) (by (with_reducible repeat (first | refine blk_drewN ?_ _ | refine blk_alloc ?_ _)); exact BK205.out)) : gb213 ≠ gb205))
                                have n8_ := Aside0.mk ((by rw [hg]; exact Nat.ne_of_lt (blk_lt (g := gb206) (o := .cells #[.int .i64 a1_0, .int .u64 a1_1] 24 (0, 0)) (by (with_reducible repeat (first | refine blk_drewN ?_ _ | refine blk_alloc ?_ _)); exact BK206.out)) : gb206 ≠ gb213))
                                have n9_ := Aside0.mk ((by rw [hg]; exact Nat.ne_of_gt (blk_lt (g := gb206) (o := .cells #[.int .i64 a1_0, .int .u64 a1_1] 24 (0, 0)) (by (with_reducible repeat (first | refine blk_drewN ?_ _ | refine blk_alloc ?_ _)); exact BK206.out)) : gb213 ≠ gb206))
                                clear BK205
                                clear BK206
                                clear HB
                                have BK205 := n0_
                                have BK206 := n1_
                                have HB := n2_
                                have BK213 := n3_
                                have GW213 := n4_
                                have GE213 := n5_
                                have NB205_213 := n6_
                                have NB213_205 := n7_
                                have NB206_213 := n8_
                                have NB213_206 := n9_
                                clear n0_ n1_ n2_ n3_ n4_ n5_ n6_ n7_ n8_ n9_
                                clear hb hbox hg
                                refine hK.out _ _ ⟨(blk_cell BK205.out 0).trans rfl, (blk_cell BK205.out 1).trans rfl, (blk_cell BK206.out 0).trans rfl, (blk_cell BK206.out 1).trans rfl⟩ (fun hHeld => ?_)
                                clear hK K
                                refine norm_ (a' := ?_) ?_ ?_
                                rotate_left
                                · show Act.put _ (some 6) _ = _
                                  simp only [Act.put, List.setIfInBounds_toArray, List.set_cons_zero, List.set_cons_succ, i64_w, i32_w]
                                  rfl
                                exact norm_ (by first | (simp only [putAll, Act.put, List.setIfInBounds_toArray, List.set_cons_zero, List.set_cons_succ]; done) | (simp only [putAll, Act.put, List.setIfInBounds_toArray, List.set_cons_zero, List.set_cons_succ]; rfl)) (hJ1_5 (gb213) _ ⟨hHeld, (by (with_reducible repeat (first | refine blk_drewN ?_ _ | refine blk_alloc ?_ _)); exact BK205.out), (by (with_reducible repeat (first | refine blk_drewN ?_ _ | refine blk_alloc ?_ _)); exact BK206.out), (by (with_reducible repeat (first | refine blk_drewN ?_ _ | refine blk_alloc ?_ _)); exact BK213.out), GW213.out, GE213.out, NB205_213.out, NB213_205.out, NB206_213.out, NB213_206.out, (by repeat (first | (with_reducible first | exact HB.out | apply below_alloc | apply pw_below_drewN | apply below_drew1 | refine below_set ?_ GE205.out | refine below_set ?_ GE206.out | refine below_set ?_ GE213.out) | exact HB.out))⟩)
                          · skip
                            rintro ⟨gb212, gb213⟩ w38 ⟨hS_, h0_, h1_, h2_, h3_, h4_, h5_, h6_, h7_, h8_, h9_, h10_, h11_, h12_, h13_, h14_, h15_, h16_, h17_, h18_⟩
                            have n0_ : Aside0 (w38.heap[gb205]? = some (.cells #[.int .i64 a0_0, .int .u64 a0_1] 24 (0, 0))) := ⟨h0_⟩
                            have n1_ : Aside0 (w38.heap[gb206]? = some (.cells #[.int .i64 a1_0, .int .u64 a1_1] 24 (0, 0))) := ⟨h1_⟩
                            have n2_ : Aside0 (w38.heap[gb212]? = some (.cells #[.int .i64 0, .int .u64 0] 28 (0, 0))) := ⟨h2_⟩
                            have n3_ : Aside0 (w38.heap[gb213]? = some (.cells #[.int .i64 0, .int .u64 0] 28 (0, 0))) := ⟨h3_⟩
                            have n4_ : Aside0 (w.heap.size ≤ gb212) := ⟨h4_⟩
                            have n5_ : Aside0 (w.heap.size ≤ gb212) := ⟨h5_⟩
                            have n6_ : Aside0 (gb205 ≠ gb212) := ⟨h6_⟩
                            have n7_ : Aside0 (gb212 ≠ gb205) := ⟨h7_⟩
                            have n8_ : Aside0 (gb206 ≠ gb212) := ⟨h8_⟩
                            have n9_ : Aside0 (gb212 ≠ gb206) := ⟨h9_⟩
                            have n10_ : Aside0 (gb213 ≠ gb212) := ⟨h10_⟩
                            have n11_ : Aside0 (gb212 ≠ gb213) := ⟨h11_⟩
                            have n12_ : Aside0 (w.heap.size ≤ gb213) := ⟨h12_⟩
                            have n13_ : Aside0 (w.heap.size ≤ gb213) := ⟨h13_⟩
                            have n14_ : Aside0 (gb205 ≠ gb213) := ⟨h14_⟩
                            have n15_ : Aside0 (gb213 ≠ gb205) := ⟨h15_⟩
                            have n16_ : Aside0 (gb206 ≠ gb213) := ⟨h16_⟩
                            have n17_ : Aside0 (gb213 ≠ gb206) := ⟨h17_⟩
                            have n18_ : Aside0 (Below w.heap.size w w38) := ⟨h18_⟩
                            clear BK205
                            clear BK206
                            clear HB
                            clear h0_ h1_ h2_ h3_ h4_ h5_ h6_ h7_ h8_ h9_ h10_ h11_ h12_ h13_ h14_ h15_ h16_ h17_ h18_
                            have BK205 := n0_
                            have BK206 := n1_
                            have BK212 := n2_
                            have BK213 := n3_
                            have GW212 := n4_
                            have GE212 := n5_
                            have NB205_212 := n6_
                            have NB212_205 := n7_
                            have NB206_212 := n8_
                            have NB212_206 := n9_
                            have NB213_212 := n10_
                            have NB212_213 := n11_
                            have GW213 := n12_
                            have GE213 := n13_
                            have NB205_213 := n14_
                            have NB213_205 := n15_
                            have NB206_213 := n16_
                            have NB213_206 := n17_
                            have HB := n18_
                            clear n0_ n1_ n2_ n3_ n4_ n5_ n6_ n7_ n8_ n9_ n10_ n11_ n12_ n13_ n14_ n15_ n16_ n17_ n18_
                            have hHeld : w38.cell? ⟨gb205, 0, none⟩ = some (.int .i64 a0_0) ∧ w38.cell? ⟨gb205, 1, none⟩ = some (.int .u64 a0_1) ∧ w38.cell? ⟨gb206, 0, none⟩ = some (.int .i64 a1_0) ∧ w38.cell? ⟨gb206, 1, none⟩ = some (.int .u64 a1_1) := hS_
                            refine norm_ (a' := ?_) ?_ ?_
                            rotate_left
                            · simp only [putAll, Act.put, List.setIfInBounds_toArray, List.set_cons_zero, List.set_cons_succ]
                              rfl
                            refine one_ (i := 1) (N := some 10) #[true, true, true, false, true, true, false, false] rfl rfl (one_of HT_.out (by kernel_rfl)) (by decide) (fun K hK => ?_)
                            refine goes_ Try.func17 (by kernel_rfl) rfl #[.agg #[.int .i64 a0_0, .int .u64 a0_1]] (by rfl) rfl rfl (by (try simp only [List.map_toArray, List.map_cons, List.map_nil]); first | done | rfl | (simp only [List.length_drop, List.length_take]; rfl)) ?_
                            with_reducible refine (calamuslaw01_Two_own.calls a0_0 a0_1 t208 t209 _ A5.out).mono ?_
                            rintro e w39 ⟨rfl, hb⟩
                            refine ⟨_, rfl, ?_⟩
                            have n0_ := Aside0.mk (blk_below (g := gb205) (o := .cells #[.int .i64 a0_0, .int .u64 a0_1] 24 (0, 0)) (by (with_reducible repeat (first | refine blk_drewN ?_ _ | refine blk_alloc ?_ _)); exact BK205.out) hb)
                            have n1_ := Aside0.mk (blk_below (g := gb206) (o := .cells #[.int .i64 a1_0, .int .u64 a1_1] 24 (0, 0)) (by (with_reducible repeat (first | refine blk_drewN ?_ _ | refine blk_alloc ?_ _)); exact BK206.out) hb)
                            have n2_ := Aside0.mk (blk_below (g := gb212) (o := .cells #[.int .i64 0, .int .u64 0] 28 (0, 0)) (by (with_reducible repeat (first | refine blk_drewN ?_ _ | refine blk_alloc ?_ _)); exact BK212.out) hb)
                            have n3_ := Aside0.mk (blk_below (g := gb213) (o := .cells #[.int .i64 0, .int .u64 0] 28 (0, 0)) (by (with_reducible repeat (first | refine blk_drewN ?_ _ | refine blk_alloc ?_ _)); exact BK213.out) hb)
                            have n4_ := Aside0.mk (below_step (by repeat (first | (with_reducible first | exact HB.out | apply below_alloc | apply pw_below_drewN | apply below_drew1 | refine below_set ?_ GE205.out | refine below_set ?_ GE206.out | refine below_set ?_ GE212.out | refine below_set ?_ GE213.out) | exact HB.out)) hb)
                            clear BK205
                            clear BK206
                            clear BK212
                            clear BK213
                            clear HB
                            have BK205 := n0_
                            have BK206 := n1_
                            have BK212 := n2_
                            have BK213 := n3_
                            have HB := n4_
                            clear n0_ n1_ n2_ n3_ n4_
                            (try clear hb)
                            (try clear hb2)
                            (try clear hk)
                            (try clear hi)
                            refine hK.out _ _ ⟨(blk_cell BK205.out 0).trans rfl, (blk_cell BK205.out 1).trans rfl, (blk_cell BK206.out 0).trans rfl, (blk_cell BK206.out 1).trans rfl⟩ (fun hHeld => ?_)
                            clear hK K
                            refine norm_ (a' := ?_) ?_ ?_
                            rotate_left
                            · show Act.put _ (some 10) _ = _
                              simp only [Act.put, List.setIfInBounds_toArray, List.set_cons_zero, List.set_cons_succ, i64_w, i32_w]
                              rfl
                            exact norm_ (by first | (simp only [putAll, Act.put, List.setIfInBounds_toArray, List.set_cons_zero, List.set_cons_succ]; done) | (simp only [putAll, Act.put, List.setIfInBounds_toArray, List.set_cons_zero, List.set_cons_succ]; rfl)) (hJ1_4_5 (gb212, gb213) _ ⟨hHeld, (by (with_reducible repeat (first | refine blk_drewN ?_ _ | refine blk_alloc ?_ _)); exact BK205.out), (by (with_reducible repeat (first | refine blk_drewN ?_ _ | refine blk_alloc ?_ _)); exact BK206.out), (by (with_reducible repeat (first | refine blk_drewN ?_ _ | refine blk_alloc ?_ _)); exact BK212.out), (by (with_reducible repeat (first | refine blk_drewN ?_ _ | refine blk_alloc ?_ _)); exact BK213.out), GW212.out, GE212.out, NB205_212.out, NB212_205.out, NB206_212.out, NB212_206.out, NB213_212.out, NB212_213.out, GW213.out, GE213.out, NB205_213.out, NB213_205.out, NB206_213.out, NB213_206.out, (by repeat (first | (with_reducible first | exact HB.out | apply below_alloc | apply pw_below_drewN | apply below_drew1 | refine below_set ?_ GE205.out | refine below_set ?_ GE206.out | refine below_set ?_ GE212.out | refine below_set ?_ GE213.out) | exact HB.out))⟩)
                        · skip
                          rintro gb213 w38 ⟨hS_, h0_, h1_, h2_, h3_, h4_, h5_, h6_, h7_, h8_, h9_⟩
                          have n0_ : Aside0 (w38.heap[gb205]? = some (.cells #[.int .i64 a0_0, .int .u64 a0_1] 24 (0, 0))) := ⟨h0_⟩
                          have n1_ : Aside0 (w38.heap[gb206]? = some (.cells #[.int .i64 a1_0, .int .u64 a1_1] 24 (0, 0))) := ⟨h1_⟩
                          have n2_ : Aside0 (w38.heap[gb213]? = some (.cells #[.int .i64 0, .int .u64 0] 28 (0, 0))) := ⟨h2_⟩
                          have n3_ : Aside0 (w.heap.size ≤ gb213) := ⟨h3_⟩
                          have n4_ : Aside0 (w.heap.size ≤ gb213) := ⟨h4_⟩
                          have n5_ : Aside0 (gb205 ≠ gb213) := ⟨h5_⟩
                          have n6_ : Aside0 (gb213 ≠ gb205) := ⟨h6_⟩
                          have n7_ : Aside0 (gb206 ≠ gb213) := ⟨h7_⟩
                          have n8_ : Aside0 (gb213 ≠ gb206) := ⟨h8_⟩
                          have n9_ : Aside0 (Below w.heap.size w w38) := ⟨h9_⟩
                          clear BK205
                          clear BK206
                          clear HB
                          clear h0_ h1_ h2_ h3_ h4_ h5_ h6_ h7_ h8_ h9_
                          have BK205 := n0_
                          have BK206 := n1_
                          have BK213 := n2_
                          have GW213 := n3_
                          have GE213 := n4_
                          have NB205_213 := n5_
                          have NB213_205 := n6_
                          have NB206_213 := n7_
                          have NB213_206 := n8_
                          have HB := n9_
                          clear n0_ n1_ n2_ n3_ n4_ n5_ n6_ n7_ n8_ n9_
                          have hHeld : w38.cell? ⟨gb205, 0, none⟩ = some (.int .i64 a0_0) ∧ w38.cell? ⟨gb205, 1, none⟩ = some (.int .u64 a0_1) ∧ w38.cell? ⟨gb206, 0, none⟩ = some (.int .i64 a1_0) ∧ w38.cell? ⟨gb206, 1, none⟩ = some (.int .u64 a1_1) := hS_
                          refine norm_ (a' := ?_) ?_ ?_
                          rotate_left
                          · simp only [putAll, Act.put, List.setIfInBounds_toArray, List.set_cons_zero, List.set_cons_succ]
                            rfl
                          refine two_ (i := 3) (j := 4) (Ni := some 12) (Nj := some 5) #[true, true, true, true, false, true, false, false] #[true, true, true, false, true, true, false, false] rfl rfl rfl rfl (two_of HT_.out (by kernel_rfl)) (by decide) (by decide) (fun K hK => ?_) (fun K hK => ?_)
                          · skip
                            refine goes_ Try.func17 (by kernel_rfl) rfl #[.agg #[.int .i64 a1_0, .int .u64 a1_1]] (by rfl) rfl rfl (by (try simp only [List.map_toArray, List.map_cons, List.map_nil]); first | done | rfl | (simp only [List.length_drop, List.length_take]; rfl)) ?_
                            with_reducible refine (calamuslaw01_Two_own.calls a1_0 a1_1 t210 t211 _ A6.out).mono ?_
                            rintro e w39 ⟨rfl, hb⟩
                            refine ⟨_, rfl, ?_⟩
                            have n0_ := Aside0.mk (blk_below (g := gb205) (o := .cells #[.int .i64 a0_0, .int .u64 a0_1] 24 (0, 0)) (by (with_reducible repeat (first | refine blk_drewN ?_ _ | refine blk_alloc ?_ _)); exact BK205.out) hb)
                            have n1_ := Aside0.mk (blk_below (g := gb206) (o := .cells #[.int .i64 a1_0, .int .u64 a1_1] 24 (0, 0)) (by (with_reducible repeat (first | refine blk_drewN ?_ _ | refine blk_alloc ?_ _)); exact BK206.out) hb)
                            have n2_ := Aside0.mk (blk_below (g := gb213) (o := .cells #[.int .i64 0, .int .u64 0] 28 (0, 0)) (by (with_reducible repeat (first | refine blk_drewN ?_ _ | refine blk_alloc ?_ _)); exact BK213.out) hb)
                            have n3_ := Aside0.mk (below_step (by repeat (first | (with_reducible first | exact HB.out | apply below_alloc | apply pw_below_drewN | apply below_drew1 | refine below_set ?_ GE205.out | refine below_set ?_ GE206.out | refine below_set ?_ GE213.out) | exact HB.out)) hb)
                            clear BK205
                            clear BK206
                            clear BK213
                            clear HB
                            have BK205 := n0_
                            have BK206 := n1_
                            have BK213 := n2_
                            have HB := n3_
                            clear n0_ n1_ n2_ n3_
                            (try clear hb)
                            (try clear hb2)
                            (try clear hk)
                            (try clear hi)
                            refine hK.out _ _ ⟨(blk_cell BK205.out 0).trans rfl, (blk_cell BK205.out 1).trans rfl, (blk_cell BK206.out 0).trans rfl, (blk_cell BK206.out 1).trans rfl⟩ (fun hHeld => ?_)
                            clear hK K
                            refine norm_ (a' := ?_) ?_ ?_
                            rotate_left
                            · show Act.put _ (some 12) _ = _
                              simp only [Act.put, List.setIfInBounds_toArray, List.set_cons_zero, List.set_cons_succ, i64_w, i32_w]
                              rfl
                            exact norm_ (by first | (simp only [putAll, Act.put, List.setIfInBounds_toArray, List.set_cons_zero, List.set_cons_succ]; done) | (simp only [putAll, Act.put, List.setIfInBounds_toArray, List.set_cons_zero, List.set_cons_succ]; rfl)) (hJ1_3_5 (gb213) _ ⟨hHeld, (by (with_reducible repeat (first | refine blk_drewN ?_ _ | refine blk_alloc ?_ _)); exact BK205.out), (by (with_reducible repeat (first | refine blk_drewN ?_ _ | refine blk_alloc ?_ _)); exact BK206.out), (by (with_reducible repeat (first | refine blk_drewN ?_ _ | refine blk_alloc ?_ _)); exact BK213.out), GW213.out, GE213.out, NB205_213.out, NB213_205.out, NB206_213.out, NB213_206.out, (by repeat (first | (with_reducible first | exact HB.out | apply below_alloc | apply pw_below_drewN | apply below_drew1 | refine below_set ?_ GE205.out | refine below_set ?_ GE206.out | refine below_set ?_ GE213.out) | exact HB.out))⟩)
                          · skip
                            refine box_step ?hg (N := 5) ?hd (cs := #[.int .i64 0, .int .u64 0]) (t := 28) ?hr ?_; (case hd => rfl); (case hg => rfl); (case hr => first | (go_simp; done) | (go_simp; rfl))
                            intro gb212 hg w39 hbox hb
                            have n0_ := Aside0.mk (blk_below (g := gb205) (o := .cells #[.int .i64 a0_0, .int .u64 a0_1] 24 (0, 0)) (by (with_reducible repeat (first | refine blk_drewN ?_ _ | refine blk_alloc ?_ _)); exact BK205.out) hb)
                            have n1_ := Aside0.mk (blk_below (g := gb206) (o := .cells #[.int .i64 a1_0, .int .u64 a1_1] 24 (0, 0)) (by (with_reducible repeat (first | refine blk_drewN ?_ _ | refine blk_alloc ?_ _)); exact BK206.out) hb)
                            have n2_ := Aside0.mk (blk_below (g := gb213) (o := .cells #[.int .i64 0, .int .u64 0] 28 (0, 0)) (by (with_reducible repeat (first | refine blk_drewN ?_ _ | refine blk_alloc ?_ _)); exact BK213.out) hb)
                            have n3_ := Aside0.mk (below_step (by repeat (first | (with_reducible first | exact HB.out | apply below_alloc | apply pw_below_drewN | apply below_drew1 | refine below_set ?_ GE205.out | refine below_set ?_ GE206.out | refine below_set ?_ GE213.out) | exact HB.out)) hb)
                            have n4_ := Aside0.mk (hbox)
                            have n5_ := Aside0.mk ((by rw [hg]; exact (below_size (by repeat (first | (with_reducible first | exact HB.out | apply below_alloc | apply pw_below_drewN | apply below_drew1 | refine below_set ?_ GE205.out | refine below_set ?_ GE206.out | refine below_set ?_ GE213.out) | exact HB.out))) : w.heap.size ≤ gb212))
                            have n6_ := Aside0.mk ((by rw [hg]; exact (below_size (by repeat (first | (with_reducible first | exact HB.out | apply below_alloc | apply pw_below_drewN | apply below_drew1 | refine below_set ?_ GE205.out | refine below_set ?_ GE206.out | refine below_set ?_ GE213.out) | exact HB.out))) : w.heap.size ≤ gb212))
                            have n7_ := Aside0.mk ((by rw [hg]; exact Nat.ne_of_lt (blk_lt (g := gb205) (o := .cells #[.int .i64 a0_0, .int .u64 a0_1] 24 (0, 0)) (by (with_reducible repeat (first | refine blk_drewN ?_ _ | refine blk_alloc ?_ _)); exact BK205.out)) : gb205 ≠ gb212))
                            have n8_ := Aside0.mk ((by rw [hg]; exact Nat.ne_of_gt (blk_lt (g := gb205) (o := .cells #[.int .i64 a0_0, .int .u64 a0_1] 24 (0, 0)) (by (with_reducible repeat (first | refine blk_drewN ?_ _ | refine blk_alloc ?_ _)); exact BK205.out)) : gb212 ≠ gb205))
                            have n9_ := Aside0.mk ((by rw [hg]; exact Nat.ne_of_lt (blk_lt (g := gb206) (o := .cells #[.int .i64 a1_0, .int .u64 a1_1] 24 (0, 0)) (by (with_reducible repeat (first | refine blk_drewN ?_ _ | refine blk_alloc ?_ _)); exact BK206.out)) : gb206 ≠ gb212))
                            have n10_ := Aside0.mk ((by rw [hg]; exact Nat.ne_of_gt (blk_lt (g := gb206) (o := .cells #[.int .i64 a1_0, .int .u64 a1_1] 24 (0, 0)) (by (with_reducible repeat (first | refine blk_drewN ?_ _ | refine blk_alloc ?_ _)); exact BK206.out)) : gb212 ≠ gb206))
                            have n11_ := Aside0.mk ((by rw [hg]; exact Nat.ne_of_lt (blk_lt (g := gb213) (o := .cells #[.int .i64 0, .int .u64 0] 28 (0, 0)) (by (with_reducible repeat (first | refine blk_drewN ?_ _ | refine blk_alloc ?_ _)); exact BK213.out)) : gb213 ≠ gb212))
                            have n12_ := Aside0.mk ((by rw [hg]; exact Nat.ne_of_gt (blk_lt (g := gb213) (o := .cells #[.int .i64 0, .int .u64 0] 28 (0, 0)) (by (with_reducible repeat (first | refine blk_drewN ?_ _ | refine blk_alloc ?_ _)); exact BK213.out)) : gb212 ≠ gb213))
                            clear BK205
                            clear BK206
                            clear BK213
                            clear HB
                            have BK205 := n0_
                            have BK206 := n1_
                            have BK213 := n2_
                            have HB := n3_
                            have BK212 := n4_
                            have GW212 := n5_
                            have GE212 := n6_
                            have NB205_212 := n7_
                            have NB212_205 := n8_
                            have NB206_212 := n9_
                            have NB212_206 := n10_
                            have NB213_212 := n11_
                            have NB212_213 := n12_
                            clear n0_ n1_ n2_ n3_ n4_ n5_ n6_ n7_ n8_ n9_ n10_ n11_ n12_
                            clear hb hbox hg
                            refine hK.out _ _ ⟨(blk_cell BK205.out 0).trans rfl, (blk_cell BK205.out 1).trans rfl, (blk_cell BK206.out 0).trans rfl, (blk_cell BK206.out 1).trans rfl⟩ (fun hHeld => ?_)
                            clear hK K
                            refine norm_ (a' := ?_) ?_ ?_
                            rotate_left
                            · show Act.put _ (some 5) _ = _
                              simp only [Act.put, List.setIfInBounds_toArray, List.set_cons_zero, List.set_cons_succ, i64_w, i32_w]
                              rfl
                            exact norm_ (by first | (simp only [putAll, Act.put, List.setIfInBounds_toArray, List.set_cons_zero, List.set_cons_succ]; done) | (simp only [putAll, Act.put, List.setIfInBounds_toArray, List.set_cons_zero, List.set_cons_succ]; rfl)) (hJ1_4_5 (gb212, gb213) _ ⟨hHeld, (by (with_reducible repeat (first | refine blk_drewN ?_ _ | refine blk_alloc ?_ _)); exact BK205.out), (by (with_reducible repeat (first | refine blk_drewN ?_ _ | refine blk_alloc ?_ _)); exact BK206.out), (by (with_reducible repeat (first | refine blk_drewN ?_ _ | refine blk_alloc ?_ _)); exact BK212.out), (by (with_reducible repeat (first | refine blk_drewN ?_ _ | refine blk_alloc ?_ _)); exact BK213.out), GW212.out, GE212.out, NB205_212.out, NB212_205.out, NB206_212.out, NB212_206.out, NB213_212.out, NB212_213.out, GW213.out, GE213.out, NB205_213.out, NB213_205.out, NB206_213.out, NB213_206.out, (by repeat (first | (with_reducible first | exact HB.out | apply below_alloc | apply pw_below_drewN | apply below_drew1 | refine below_set ?_ GE205.out | refine below_set ?_ GE206.out | refine below_set ?_ GE213.out | refine below_set ?_ GE212.out) | exact HB.out))⟩)
                      · skip
                        rintro gb212 w38 ⟨hS_, h0_, h1_, h2_, h3_, h4_, h5_, h6_, h7_, h8_, h9_⟩
                        have n0_ : Aside0 (w38.heap[gb205]? = some (.cells #[.int .i64 a0_0, .int .u64 a0_1] 24 (0, 0))) := ⟨h0_⟩
                        have n1_ : Aside0 (w38.heap[gb206]? = some (.cells #[.int .i64 a1_0, .int .u64 a1_1] 24 (0, 0))) := ⟨h1_⟩
                        have n2_ : Aside0 (w38.heap[gb212]? = some (.cells #[.int .i64 0, .int .u64 0] 28 (0, 0))) := ⟨h2_⟩
                        have n3_ : Aside0 (w.heap.size ≤ gb212) := ⟨h3_⟩
                        have n4_ : Aside0 (w.heap.size ≤ gb212) := ⟨h4_⟩
                        have n5_ : Aside0 (gb205 ≠ gb212) := ⟨h5_⟩
                        have n6_ : Aside0 (gb212 ≠ gb205) := ⟨h6_⟩
                        have n7_ : Aside0 (gb206 ≠ gb212) := ⟨h7_⟩
                        have n8_ : Aside0 (gb212 ≠ gb206) := ⟨h8_⟩
                        have n9_ : Aside0 (Below w.heap.size w w38) := ⟨h9_⟩
                        clear BK205
                        clear BK206
                        clear HB
                        clear h0_ h1_ h2_ h3_ h4_ h5_ h6_ h7_ h8_ h9_
                        have BK205 := n0_
                        have BK206 := n1_
                        have BK212 := n2_
                        have GW212 := n3_
                        have GE212 := n4_
                        have NB205_212 := n5_
                        have NB212_205 := n6_
                        have NB206_212 := n7_
                        have NB212_206 := n8_
                        have HB := n9_
                        clear n0_ n1_ n2_ n3_ n4_ n5_ n6_ n7_ n8_ n9_
                        have hHeld : w38.cell? ⟨gb205, 0, none⟩ = some (.int .i64 a0_0) ∧ w38.cell? ⟨gb205, 1, none⟩ = some (.int .u64 a0_1) ∧ w38.cell? ⟨gb206, 0, none⟩ = some (.int .i64 a1_0) ∧ w38.cell? ⟨gb206, 1, none⟩ = some (.int .u64 a1_1) := hS_
                        refine norm_ (a' := ?_) ?_ ?_
                        rotate_left
                        · simp only [putAll, Act.put, List.setIfInBounds_toArray, List.set_cons_zero, List.set_cons_succ]
                          rfl
                        refine two_ (i := 3) (j := 5) (Ni := some 12) (Nj := some 6) #[true, true, true, true, true, false, false, false] #[true, true, true, false, true, true, false, false] rfl rfl rfl rfl (two_of HT_.out (by kernel_rfl)) (by decide) (by decide) (fun K hK => ?_) (fun K hK => ?_)
                        · skip
                          refine goes_ Try.func17 (by kernel_rfl) rfl #[.agg #[.int .i64 a1_0, .int .u64 a1_1]] (by rfl) rfl rfl (by (try simp only [List.map_toArray, List.map_cons, List.map_nil]); first | done | rfl | (simp only [List.length_drop, List.length_take]; rfl)) ?_
                          with_reducible refine (calamuslaw01_Two_own.calls a1_0 a1_1 t210 t211 _ A6.out).mono ?_
                          rintro e w39 ⟨rfl, hb⟩
                          refine ⟨_, rfl, ?_⟩
                          have n0_ := Aside0.mk (blk_below (g := gb205) (o := .cells #[.int .i64 a0_0, .int .u64 a0_1] 24 (0, 0)) (by (with_reducible repeat (first | refine blk_drewN ?_ _ | refine blk_alloc ?_ _)); exact BK205.out) hb)
                          have n1_ := Aside0.mk (blk_below (g := gb206) (o := .cells #[.int .i64 a1_0, .int .u64 a1_1] 24 (0, 0)) (by (with_reducible repeat (first | refine blk_drewN ?_ _ | refine blk_alloc ?_ _)); exact BK206.out) hb)
                          have n2_ := Aside0.mk (blk_below (g := gb212) (o := .cells #[.int .i64 0, .int .u64 0] 28 (0, 0)) (by (with_reducible repeat (first | refine blk_drewN ?_ _ | refine blk_alloc ?_ _)); exact BK212.out) hb)
                          have n3_ := Aside0.mk (below_step (by repeat (first | (with_reducible first | exact HB.out | apply below_alloc | apply pw_below_drewN | apply below_drew1 | refine below_set ?_ GE205.out | refine below_set ?_ GE206.out | refine below_set ?_ GE212.out) | exact HB.out)) hb)
                          clear BK205
                          clear BK206
                          clear BK212
                          clear HB
                          have BK205 := n0_
                          have BK206 := n1_
                          have BK212 := n2_
                          have HB := n3_
                          clear n0_ n1_ n2_ n3_
                          (try clear hb)
                          (try clear hb2)
                          (try clear hk)
                          (try clear hi)
                          refine hK.out _ _ ⟨(blk_cell BK205.out 0).trans rfl, (blk_cell BK205.out 1).trans rfl, (blk_cell BK206.out 0).trans rfl, (blk_cell BK206.out 1).trans rfl⟩ (fun hHeld => ?_)
                          clear hK K
                          refine norm_ (a' := ?_) ?_ ?_
                          rotate_left
                          · show Act.put _ (some 12) _ = _
                            simp only [Act.put, List.setIfInBounds_toArray, List.set_cons_zero, List.set_cons_succ, i64_w, i32_w]
                            rfl
                          exact norm_ (by first | (simp only [putAll, Act.put, List.setIfInBounds_toArray, List.set_cons_zero, List.set_cons_succ]; done) | (simp only [putAll, Act.put, List.setIfInBounds_toArray, List.set_cons_zero, List.set_cons_succ]; rfl)) (hJ1_3_4 (gb212) _ ⟨hHeld, (by (with_reducible repeat (first | refine blk_drewN ?_ _ | refine blk_alloc ?_ _)); exact BK205.out), (by (with_reducible repeat (first | refine blk_drewN ?_ _ | refine blk_alloc ?_ _)); exact BK206.out), (by (with_reducible repeat (first | refine blk_drewN ?_ _ | refine blk_alloc ?_ _)); exact BK212.out), GW212.out, GE212.out, NB205_212.out, NB212_205.out, NB206_212.out, NB212_206.out, (by repeat (first | (with_reducible first | exact HB.out | apply below_alloc | apply pw_below_drewN | apply below_drew1 | refine below_set ?_ GE205.out | refine below_set ?_ GE206.out | refine below_set ?_ GE212.out) | exact HB.out))⟩)
                        · skip
                          refine box_step ?hg (N := 6) ?hd (cs := #[.int .i64 0, .int .u64 0]) (t := 28) ?hr ?_; (case hd => rfl); (case hg => rfl); (case hr => first | (go_simp; done) | (go_simp; rfl))
                          intro gb213 hg w39 hbox hb
                          have n0_ := Aside0.mk (blk_below (g := gb205) (o := .cells #[.int .i64 a0_0, .int .u64 a0_1] 24 (0, 0)) (by (with_reducible repeat (first | refine blk_drewN ?_ _ | refine blk_alloc ?_ _)); exact BK205.out) hb)
                          have n1_ := Aside0.mk (blk_below (g := gb206) (o := .cells #[.int .i64 a1_0, .int .u64 a1_1] 24 (0, 0)) (by (with_reducible repeat (first | refine blk_drewN ?_ _ | refine blk_alloc ?_ _)); exact BK206.out) hb)
                          have n2_ := Aside0.mk (blk_below (g := gb212) (o := .cells #[.int .i64 0, .int .u64 0] 28 (0, 0)) (by (with_reducible repeat (first | refine blk_drewN ?_ _ | refine blk_alloc ?_ _)); exact BK212.out) hb)
                          have n3_ := Aside0.mk (below_step (by repeat (first | (with_reducible first | exact HB.out | apply below_alloc | apply pw_below_drewN | apply below_drew1 | refine below_set ?_ GE205.out | refine below_set ?_ GE206.out | refine below_set ?_ GE212.out) | exact HB.out)) hb)
                          have n4_ := Aside0.mk (hbox)
                          have n5_ := Aside0.mk ((by rw [hg]; exact (below_size (by repeat (first | (with_reducible first | exact HB.out | apply below_alloc | apply pw_below_drewN | apply below_drew1 | refine below_set ?_ GE205.out | refine below_set ?_ GE206.out | refine below_set ?_ GE212.out) | exact HB.out))) : w.heap.size ≤ gb213))
                          have n6_ := Aside0.mk ((by rw [hg]; exact (below_size (by repeat (first | (with_reducible first | exact HB.out | apply below_alloc | apply pw_below_drewN | apply below_drew1 | refine below_set ?_ GE205.out | refine below_set ?_ GE206.out | refine below_set ?_ GE212.out) | exact HB.out))) : w.heap.size ≤ gb213))
                          have n7_ := Aside0.mk ((by rw [hg]; exact Nat.ne_of_lt (blk_lt (g := gb205) (o := .cells #[.int .i64 a0_0, .int .u64 a0_1] 24 (0, 0)) (by (with_reducible repeat (first | refine blk_drewN ?_ _ | refine blk_alloc ?_ _)); exact BK205.out)) : gb205 ≠ gb213))
                          have n8_ := Aside0.mk ((by rw [hg]; exact Nat.ne_of_gt (blk_lt (g := gb205) (o := .cells #[.int .i64 a0_0, .int .u64 a0_1] 24 (0, 0)) (by (with_reducible repeat (first | refine blk_drewN ?_ _ | refine blk_alloc ?_ _)); exact BK205.out)) : gb213 ≠ gb205))
                          have n9_ := Aside0.mk ((by rw [hg]; exact Nat.ne_of_lt (blk_lt (g := gb206) (o := .cells #[.int .i64 a1_0, .int .u64 a1_1] 24 (0, 0)) (by (with_reducible repeat (first | refine blk_drewN ?_ _ | refine blk_alloc ?_ _)); exact BK206.out)) : gb206 ≠ gb213))
                          have n10_ := Aside0.mk ((by rw [hg]; exact Nat.ne_of_gt (blk_lt (g := gb206) (o := .cells #[.int .i64 a1_0, .int .u64 a1_1] 24 (0, 0)) (by (with_reducible repeat (first | refine blk_drewN ?_ _ | refine blk_alloc ?_ _)); exact BK206.out)) : gb213 ≠ gb206))
                          have n11_ := Aside0.mk ((by rw [hg]; exact Nat.ne_of_lt (blk_lt (g := gb212) (o := .cells #[.int .i64 0, .int .u64 0] 28 (0, 0)) (by (with_reducible repeat (first | refine blk_drewN ?_ _ | refine blk_alloc ?_ _)); exact BK212.out)) : gb212 ≠ gb213))
                          have n12_ := Aside0.mk ((by rw [hg]; exact Nat.ne_of_gt (blk_lt (g := gb212) (o := .cells #[.int .i64 0, .int .u64 0] 28 (0, 0)) (by (with_reducible repeat (first | refine blk_drewN ?_ _ | refine blk_alloc ?_ _)); exact BK212.out)) : gb213 ≠ gb212))
                          clear BK205
                          clear BK206
                          clear BK212
                          clear HB
                          have BK205 := n0_
                          have BK206 := n1_
                          have BK212 := n2_
                          have HB := n3_
                          have BK213 := n4_
                          have GW213 := n5_
                          have GE213 := n6_
                          have NB205_213 := n7_
                          have NB213_205 := n8_
                          have NB206_213 := n9_
                          have NB213_206 := n10_
                          have NB212_213 := n11_
                          have NB213_212 := n12_
                          clear n0_ n1_ n2_ n3_ n4_ n5_ n6_ n7_ n8_ n9_ n10_ n11_ n12_
                          clear hb hbox hg
                          refine hK.out _ _ ⟨(blk_cell BK205.out 0).trans rfl, (blk_cell BK205.out 1).trans rfl, (blk_cell BK206.out 0).trans rfl, (blk_cell BK206.out 1).trans rfl⟩ (fun hHeld => ?_)
                          clear hK K
                          refine norm_ (a' := ?_) ?_ ?_
                          rotate_left
                          · show Act.put _ (some 6) _ = _
                            simp only [Act.put, List.setIfInBounds_toArray, List.set_cons_zero, List.set_cons_succ, i64_w, i32_w]
                            rfl
                          exact norm_ (by first | (simp only [putAll, Act.put, List.setIfInBounds_toArray, List.set_cons_zero, List.set_cons_succ]; done) | (simp only [putAll, Act.put, List.setIfInBounds_toArray, List.set_cons_zero, List.set_cons_succ]; rfl)) (hJ1_4_5 (gb212, gb213) _ ⟨hHeld, (by (with_reducible repeat (first | refine blk_drewN ?_ _ | refine blk_alloc ?_ _)); exact BK205.out), (by (with_reducible repeat (first | refine blk_drewN ?_ _ | refine blk_alloc ?_ _)); exact BK206.out), (by (with_reducible repeat (first | refine blk_drewN ?_ _ | refine blk_alloc ?_ _)); exact BK212.out), (by (with_reducible repeat (first | refine blk_drewN ?_ _ | refine blk_alloc ?_ _)); exact BK213.out), GW212.out, GE212.out, NB205_212.out, NB212_205.out, NB206_212.out, NB212_206.out, NB213_212.out, NB212_213.out, GW213.out, GE213.out, NB205_213.out, NB213_205.out, NB206_213.out, NB213_206.out, (by repeat (first | (with_reducible first | exact HB.out | apply below_alloc | apply pw_below_drewN | apply below_drew1 | refine below_set ?_ GE205.out | refine below_set ?_ GE206.out | refine below_set ?_ GE212.out | refine below_set ?_ GE213.out) | exact HB.out))⟩)
                    · skip
                      rintro _ w38 ⟨hS_, h0_, h1_, h2_⟩
                      have n0_ : Aside0 (w38.heap[gb205]? = some (.cells #[.int .i64 a0_0, .int .u64 a0_1] 24 (0, 0))) := ⟨h0_⟩
                      have n1_ : Aside0 (w38.heap[gb206]? = some (.cells #[.int .i64 a1_0, .int .u64 a1_1] 24 (0, 0))) := ⟨h1_⟩
                      have n2_ : Aside0 (Below w.heap.size w w38) := ⟨h2_⟩
                      clear BK205
                      clear BK206
                      clear HB
                      clear h0_ h1_ h2_
                      have BK205 := n0_
                      have BK206 := n1_
                      have HB := n2_
                      clear n0_ n1_ n2_
                      have hHeld : w38.cell? ⟨gb205, 0, none⟩ = some (.int .i64 a0_0) ∧ w38.cell? ⟨gb205, 1, none⟩ = some (.int .u64 a0_1) ∧ w38.cell? ⟨gb206, 0, none⟩ = some (.int .i64 a1_0) ∧ w38.cell? ⟨gb206, 1, none⟩ = some (.int .u64 a1_1) := hS_
                      refine norm_ (a' := ?_) ?_ ?_
                      rotate_left
                      · simp only [putAll, Act.put, List.setIfInBounds_toArray, List.set_cons_zero, List.set_cons_succ]
                        rfl
                      refine two_ (i := 4) (j := 5) (Ni := some 5) (Nj := some 6) #[true, true, true, true, true, false, false, false] #[true, true, true, true, false, true, false, false] rfl rfl rfl rfl (two_of HT_.out (by kernel_rfl)) (by decide) (by decide) (fun K hK => ?_) (fun K hK => ?_)
                      · skip
                        refine box_step ?hg (N := 5) ?hd (cs := #[.int .i64 0, .int .u64 0]) (t := 28) ?hr ?_; (case hd => rfl); (case hg => rfl); (case hr => first | (go_simp; done) | (go_simp; rfl))
                        intro gb212 hg w39 hbox hb
                        have n0_ := Aside0.mk (blk_below (g := gb205) (o := .cells #[.int .i64 a0_0, .int .u64 a0_1] 24 (0, 0)) (by (with_reducible repeat (first | refine blk_drewN ?_ _ | refine blk_alloc ?_ _)); exact BK205.out) hb)
                        have n1_ := Aside0.mk (blk_below (g := gb206) (o := .cells #[.int .i64 a1_0, .int .u64 a1_1] 24 (0, 0)) (by (with_reducible repeat (first | refine blk_drewN ?_ _ | refine blk_alloc ?_ _)); exact BK206.out) hb)
                        have n2_ := Aside0.mk (below_step (by repeat (first | (with_reducible first | exact HB.out | apply below_alloc | apply pw_below_drewN | apply below_drew1 | refine below_set ?_ GE205.out | refine below_set ?_ GE206.out) | exact HB.out)) hb)
                        have n3_ := Aside0.mk (hbox)
                        have n4_ := Aside0.mk ((by rw [hg]; exact (below_size (by repeat (first | (with_reducible first | exact HB.out | apply below_alloc | apply pw_below_drewN | apply below_drew1 | refine below_set ?_ GE205.out | refine below_set ?_ GE206.out) | exact HB.out))) : w.heap.size ≤ gb212))
                        have n5_ := Aside0.mk ((by rw [hg]; exact (below_size (by repeat (first | (with_reducible first | exact HB.out | apply below_alloc | apply pw_below_drewN | apply below_drew1 | refine below_set ?_ GE205.out | refine below_set ?_ GE206.out) | exact HB.out))) : w.heap.size ≤ gb212))
                        have n6_ := Aside0.mk ((by rw [hg]; exact Nat.ne_of_lt (blk_lt (g := gb205) (o := .cells #[.int .i64 a0_0, .int .u64 a0_1] 24 (0, 0)) (by (with_reducible repeat (first | refine blk_drewN ?_ _ | refine blk_alloc ?_ _)); exact BK205.out)) : gb205 ≠ gb212))
                        have n7_ := Aside0.mk ((by rw [hg]; exact Nat.ne_of_gt (blk_lt (g := gb205) (o := .cells #[.int .i64 a0_0, .int .u64 a0_1] 24 (0, 0)) (by (with_reducible repeat (first | refine blk_drewN ?_ _ | refine blk_alloc ?_ _)); exact BK205.out)) : gb212 ≠ gb205))
                        have n8_ := Aside0.mk ((by rw [hg]; exact Nat.ne_of_lt (blk_lt (g := gb206) (o := .cells #[.int .i64 a1_0, .int .u64 a1_1] 24 (0, 0)) (by (with_reducible repeat (first | refine blk_drewN ?_ _ | refine blk_alloc ?_ _)); exact BK206.out)) : gb206 ≠ gb212))
                        have n9_ := Aside0.mk ((by rw [hg]; exact Nat.ne_of_gt (blk_lt (g := gb206) (o := .cells #[.int .i64 a1_0, .int .u64 a1_1] 24 (0, 0)) (by (with_reducible repeat (first | refine blk_drewN ?_ _ | refine blk_alloc ?_ _)); exact BK206.out)) : gb212 ≠ gb206))
                        clear BK205
                        clear BK206
                        clear HB
                        have BK205 := n0_
                        have BK206 := n1_
                        have HB := n2_
                        have BK212 := n3_
                        have GW212 := n4_
                        have GE212 := n5_
                        have NB205_212 := n6_
                        have NB212_205 := n7_
                        have NB206_212 := n8_
                        have NB212_206 := n9_
                        clear n0_ n1_ n2_ n3_ n4_ n5_ n6_ n7_ n8_ n9_
                        clear hb hbox hg
                        refine hK.out _ _ ⟨(blk_cell BK205.out 0).trans rfl, (blk_cell BK205.out 1).trans rfl, (blk_cell BK206.out 0).trans rfl, (blk_cell BK206.out 1).trans rfl⟩ (fun hHeld => ?_)
                        clear hK K
                        refine norm_ (a' := ?_) ?_ ?_
                        rotate_left
                        · show Act.put _ (some 5) _ = _
                          simp only [Act.put, List.setIfInBounds_toArray, List.set_cons_zero, List.set_cons_succ, i64_w, i32_w]
                          rfl
                        exact norm_ (by first | (simp only [putAll, Act.put, List.setIfInBounds_toArray, List.set_cons_zero, List.set_cons_succ]; done) | (simp only [putAll, Act.put, List.setIfInBounds_toArray, List.set_cons_zero, List.set_cons_succ]; rfl)) (hJ1_3_4 (gb212) _ ⟨hHeld, (by (with_reducible repeat (first | refine blk_drewN ?_ _ | refine blk_alloc ?_ _)); exact BK205.out), (by (with_reducible repeat (first | refine blk_drewN ?_ _ | refine blk_alloc ?_ _)); exact BK206.out), (by (with_reducible repeat (first | refine blk_drewN ?_ _ | refine blk_alloc ?_ _)); exact BK212.out), GW212.out, GE212.out, NB205_212.out, NB212_205.out, NB206_212.out, NB212_206.out, (by repeat (first | (with_reducible first | exact HB.out | apply below_alloc | apply pw_below_drewN | apply below_drew1 | refine below_set ?_ GE205.out | refine below_set ?_ GE206.out | refine below_set ?_ GE212.out) | exact HB.out))⟩)
                      · skip
                        refine box_step ?hg (N := 6) ?hd (cs := #[.int .i64 0, .int .u64 0]) (t := 28) ?hr ?_; (case hd => rfl); (case hg => rfl); (case hr => first | (go_simp; done) | (go_simp; rfl))
                        intro gb213 hg w39 hbox hb
                        have n0_ := Aside0.mk (blk_below (g := gb205) (o := .cells #[.int .i64 a0_0, .int .u64 a0_1] 24 (0, 0)) (by (with_reducible repeat (first | refine blk_drewN ?_ _ | refine blk_alloc ?_ _)); exact BK205.out) hb)
                        have n1_ := Aside0.mk (blk_below (g := gb206) (o := .cells #[.int .i64 a1_0, .int .u64 a1_1] 24 (0, 0)) (by (with_reducible repeat (first | refine blk_drewN ?_ _ | refine blk_alloc ?_ _)); exact BK206.out) hb)
                        have n2_ := Aside0.mk (below_step (by repeat (first | (with_reducible first | exact HB.out | apply below_alloc | apply pw_below_drewN | apply below_drew1 | refine below_set ?_ GE205.out | refine below_set ?_ GE206.out) | exact HB.out)) hb)
                        have n3_ := Aside0.mk (hbox)
                        have n4_ := Aside0.mk ((by rw [hg]; exact (below_size (by repeat (first | (with_reducible first | exact HB.out | apply below_alloc | apply pw_below_drewN | apply below_drew1 | refine below_set ?_ GE205.out | refine below_set ?_ GE206.out) | exact HB.out))) : w.heap.size ≤ gb213))
                        have n5_ := Aside0.mk ((by rw [hg]; exact (below_size (by repeat (first | (with_reducible first | exact HB.out | apply below_alloc | apply pw_below_drewN | apply below_drew1 | refine below_set ?_ GE205.out | refine below_set ?_ GE206.out) | exact HB.out))) : w.heap.size ≤ gb213))
                        have n6_ := Aside0.mk ((by rw [hg]; exact Nat.ne_of_lt (blk_lt (g := gb205) (o := .cells #[.int .i64 a0_0, .int .u64 a0_1] 24 (0, 0)) (by (with_reducible repeat (first | refine blk_drewN ?_ _ | refine blk_alloc ?_ _)); exact BK205.out)) : gb205 ≠ gb213))
                        have n7_ := Aside0.mk ((by rw [hg]; exact Nat.ne_of_gt (blk_lt (g := gb205) (o := .cells #[.int .i64 a0_0, .int .u64 a0_1] 24 (0, 0)) (by (with_reducible repeat (first | refine blk_drewN ?_ _ | refine blk_alloc ?_ _)); exact BK205.out)) : gb213 ≠ gb205))
                        have n8_ := Aside0.mk ((by rw [hg]; exact Nat.ne_of_lt (blk_lt (g := gb206) (o := .cells #[.int .i64 a1_0, .int .u64 a1_1] 24 (0, 0)) (by (with_reducible repeat (first | refine blk_drewN ?_ _ | refine blk_alloc ?_ _)); exact BK206.out)) : gb206 ≠ gb213))
                        have n9_ := Aside0.mk ((by rw [hg]; exact Nat.ne_of_gt (blk_lt (g := gb206) (o := .cells #[.int .i64 a1_0, .int .u64 a1_1] 24 (0, 0)) (by (with_reducible repeat (first | refine blk_drewN ?_ _ | refine blk_alloc ?_ _)); exact BK206.out)) : gb213 ≠ gb206))
                        clear BK205
                        clear BK206
                        clear HB
                        have BK205 := n0_
                        have BK206 := n1_
                        have HB := n2_
                        have BK213 := n3_
                        have GW213 := n4_
                        have GE213 := n5_
                        have NB205_213 := n6_
                        have NB213_205 := n7_
                        have NB206_213 := n8_
                        have NB213_206 := n9_
                        clear n0_ n1_ n2_ n3_ n4_ n5_ n6_ n7_ n8_ n9_
                        clear hb hbox hg
                        refine hK.out _ _ ⟨(blk_cell BK205.out 0).trans rfl, (blk_cell BK205.out 1).trans rfl, (blk_cell BK206.out 0).trans rfl, (blk_cell BK206.out 1).trans rfl⟩ (fun hHeld => ?_)
                        clear hK K
                        refine norm_ (a' := ?_) ?_ ?_
                        rotate_left
                        · show Act.put _ (some 6) _ = _
                          simp only [Act.put, List.setIfInBounds_toArray, List.set_cons_zero, List.set_cons_succ, i64_w, i32_w]
                          rfl
                        exact norm_ (by first | (simp only [putAll, Act.put, List.setIfInBounds_toArray, List.set_cons_zero, List.set_cons_succ]; done) | (simp only [putAll, Act.put, List.setIfInBounds_toArray, List.set_cons_zero, List.set_cons_succ]; rfl)) (hJ1_3_5 (gb213) _ ⟨hHeld, (by (with_reducible repeat (first | refine blk_drewN ?_ _ | refine blk_alloc ?_ _)); exact BK205.out), (by (with_reducible repeat (first | refine blk_drewN ?_ _ | refine blk_alloc ?_ _)); exact BK206.out), (by (with_reducible repeat (first | refine blk_drewN ?_ _ | refine blk_alloc ?_ _)); exact BK213.out), GW213.out, GE213.out, NB205_213.out, NB213_205.out, NB206_213.out, NB213_206.out, (by repeat (first | (with_reducible first | exact HB.out | apply below_alloc | apply pw_below_drewN | apply below_drew1 | refine below_set ?_ GE205.out | refine below_set ?_ GE206.out | refine below_set ?_ GE213.out) | exact HB.out))⟩)
                  · skip
                    rintro ⟨gb212, gb213⟩ w39 ⟨hS_, h0_, h1_, h2_, h3_, h4_, h5_, h6_, h7_, h8_, h9_, h10_, h11_, h12_, h13_, h14_, h15_, h16_, h17_, h18_⟩
                    have n0_ : Aside0 (w39.heap[gb205]? = some (.cells #[.int .i64 a0_0, .int .u64 a0_1] 24 (0, 0))) := ⟨h0_⟩
                    have n1_ : Aside0 (w39.heap[gb206]? = some (.cells #[.int .i64 a1_0, .int .u64 a1_1] 24 (0, 0))) := ⟨h1_⟩
                    have n2_ : Aside0 (w39.heap[gb212]? = some (.cells #[.int .i64 0, .int .u64 0] 28 (0, 0))) := ⟨h2_⟩
                    have n3_ : Aside0 (w39.heap[gb213]? = some (.cells #[.int .i64 0, .int .u64 0] 28 (0, 0))) := ⟨h3_⟩
                    have n4_ : Aside0 (w.heap.size ≤ gb212) := ⟨h4_⟩
                    have n5_ : Aside0 (w.heap.size ≤ gb212) := ⟨h5_⟩
                    have n6_ : Aside0 (gb205 ≠ gb212) := ⟨h6_⟩
                    have n7_ : Aside0 (gb212 ≠ gb205) := ⟨h7_⟩
                    have n8_ : Aside0 (gb206 ≠ gb212) := ⟨h8_⟩
                    have n9_ : Aside0 (gb212 ≠ gb206) := ⟨h9_⟩
                    have n10_ : Aside0 (gb213 ≠ gb212) := ⟨h10_⟩
                    have n11_ : Aside0 (gb212 ≠ gb213) := ⟨h11_⟩
                    have n12_ : Aside0 (w.heap.size ≤ gb213) := ⟨h12_⟩
                    have n13_ : Aside0 (w.heap.size ≤ gb213) := ⟨h13_⟩
                    have n14_ : Aside0 (gb205 ≠ gb213) := ⟨h14_⟩
                    have n15_ : Aside0 (gb213 ≠ gb205) := ⟨h15_⟩
                    have n16_ : Aside0 (gb206 ≠ gb213) := ⟨h16_⟩
                    have n17_ : Aside0 (gb213 ≠ gb206) := ⟨h17_⟩
                    have n18_ : Aside0 (Below w.heap.size w w39) := ⟨h18_⟩
                    clear BK205
                    clear BK206
                    clear HB
                    clear h0_ h1_ h2_ h3_ h4_ h5_ h6_ h7_ h8_ h9_ h10_ h11_ h12_ h13_ h14_ h15_ h16_ h17_ h18_
                    have BK205 := n0_
                    have BK206 := n1_
                    have BK212 := n2_
                    have BK213 := n3_
                    have GW212 := n4_
                    have GE212 := n5_
                    have NB205_212 := n6_
                    have NB212_205 := n7_
                    have NB206_212 := n8_
                    have NB212_206 := n9_
                    have NB213_212 := n10_
                    have NB212_213 := n11_
                    have GW213 := n12_
                    have GE213 := n13_
                    have NB205_213 := n14_
                    have NB213_205 := n15_
                    have NB206_213 := n16_
                    have NB213_206 := n17_
                    have HB := n18_
                    clear n0_ n1_ n2_ n3_ n4_ n5_ n6_ n7_ n8_ n9_ n10_ n11_ n12_ n13_ n14_ n15_ n16_ n17_ n18_
                    have hHeld : w39.cell? ⟨gb205, 0, none⟩ = some (.int .i64 a0_0) ∧ w39.cell? ⟨gb205, 1, none⟩ = some (.int .u64 a0_1) ∧ w39.cell? ⟨gb206, 0, none⟩ = some (.int .i64 a1_0) ∧ w39.cell? ⟨gb206, 1, none⟩ = some (.int .u64 a1_1) := hS_
                    refine norm_ (a' := ?_) ?_ ?_
                    rotate_left
                    · simp only [putAll, Act.put, List.setIfInBounds_toArray, List.set_cons_zero, List.set_cons_succ]
                      rfl
                    refine one_ (i := 3) (N := some 12) #[true, true, true, true, true, true, false, false] rfl rfl (one_of HT_.out (by kernel_rfl)) (by decide) (fun K hK => ?_)
                    refine goes_ Try.func17 (by kernel_rfl) rfl #[.agg #[.int .i64 a1_0, .int .u64 a1_1]] (by rfl) rfl rfl (by (try simp only [List.map_toArray, List.map_cons, List.map_nil]); first | done | rfl | (simp only [List.length_drop, List.length_take]; rfl)) ?_
                    with_reducible refine (calamuslaw01_Two_own.calls a1_0 a1_1 t210 t211 _ A6.out).mono ?_
                    rintro e w40 ⟨rfl, hb⟩
                    refine ⟨_, rfl, ?_⟩
                    have n0_ := Aside0.mk (blk_below (g := gb205) (o := .cells #[.int .i64 a0_0, .int .u64 a0_1] 24 (0, 0)) (by (with_reducible repeat (first | refine blk_drewN ?_ _ | refine blk_alloc ?_ _)); exact BK205.out) hb)
                    have n1_ := Aside0.mk (blk_below (g := gb206) (o := .cells #[.int .i64 a1_0, .int .u64 a1_1] 24 (0, 0)) (by (with_reducible repeat (first | refine blk_drewN ?_ _ | refine blk_alloc ?_ _)); exact BK206.out) hb)
                    have n2_ := Aside0.mk (blk_below (g := gb212) (o := .cells #[.int .i64 0, .int .u64 0] 28 (0, 0)) (by (with_reducible repeat (first | refine blk_drewN ?_ _ | refine blk_alloc ?_ _)); exact BK212.out) hb)
                    have n3_ := Aside0.mk (blk_below (g := gb213) (o := .cells #[.int .i64 0, .int .u64 0] 28 (0, 0)) (by (with_reducible repeat (first | refine blk_drewN ?_ _ | refine blk_alloc ?_ _)); exact BK213.out) hb)
                    have n4_ := Aside0.mk (below_step (by repeat (first | (with_reducible first | exact HB.out | apply below_alloc | apply pw_below_drewN | apply below_drew1 | refine below_set ?_ GE205.out | refine below_set ?_ GE206.out | refine below_set ?_ GE212.out | refine below_set ?_ GE213.out) | exact HB.out)) hb)
                    clear BK205
                    clear BK206
                    clear BK212
                    clear BK213
                    clear HB
                    have BK205 := n0_
                    have BK206 := n1_
                    have BK212 := n2_
                    have BK213 := n3_
                    have HB := n4_
                    clear n0_ n1_ n2_ n3_ n4_
                    (try clear hb)
                    (try clear hb2)
                    (try clear hk)
                    (try clear hi)
                    refine hK.out _ _ ⟨(blk_cell BK205.out 0).trans rfl, (blk_cell BK205.out 1).trans rfl, (blk_cell BK206.out 0).trans rfl, (blk_cell BK206.out 1).trans rfl⟩ (fun hHeld => ?_)
                    clear hK K
                    refine norm_ (a' := ?_) ?_ ?_
                    rotate_left
                    · show Act.put _ (some 12) _ = _
                      simp only [Act.put, List.setIfInBounds_toArray, List.set_cons_zero, List.set_cons_succ, i64_w, i32_w]
                      rfl
                    exact norm_ (by first | (simp only [putAll, Act.put, List.setIfInBounds_toArray, List.set_cons_zero, List.set_cons_succ]; done) | (simp only [putAll, Act.put, List.setIfInBounds_toArray, List.set_cons_zero, List.set_cons_succ]; rfl)) (hJ1_3_4_5 (gb212, gb213) _ ⟨hHeld, (by (with_reducible repeat (first | refine blk_drewN ?_ _ | refine blk_alloc ?_ _)); exact BK205.out), (by (with_reducible repeat (first | refine blk_drewN ?_ _ | refine blk_alloc ?_ _)); exact BK206.out), (by (with_reducible repeat (first | refine blk_drewN ?_ _ | refine blk_alloc ?_ _)); exact BK212.out), (by (with_reducible repeat (first | refine blk_drewN ?_ _ | refine blk_alloc ?_ _)); exact BK213.out), GW212.out, GE212.out, NB205_212.out, NB212_205.out, NB206_212.out, NB212_206.out, NB213_212.out, NB212_213.out, GW213.out, GE213.out, NB205_213.out, NB213_205.out, NB206_213.out, NB213_206.out, (by repeat (first | (with_reducible first | exact HB.out | apply below_alloc | apply pw_below_drewN | apply below_drew1 | refine below_set ?_ GE205.out | refine below_set ?_ GE206.out | refine below_set ?_ GE212.out | refine below_set ?_ GE213.out) | exact HB.out))⟩)
                · skip
                  rintro gb213 w39 ⟨hS_, h0_, h1_, h2_, h3_, h4_, h5_, h6_, h7_, h8_, h9_⟩
                  have n0_ : Aside0 (w39.heap[gb205]? = some (.cells #[.int .i64 a0_0, .int .u64 a0_1] 24 (0, 0))) := ⟨h0_⟩
                  have n1_ : Aside0 (w39.heap[gb206]? = some (.cells #[.int .i64 a1_0, .int .u64 a1_1] 24 (0, 0))) := ⟨h1_⟩
                  have n2_ : Aside0 (w39.heap[gb213]? = some (.cells #[.int .i64 0, .int .u64 0] 28 (0, 0))) := ⟨h2_⟩
                  have n3_ : Aside0 (w.heap.size ≤ gb213) := ⟨h3_⟩
                  have n4_ : Aside0 (w.heap.size ≤ gb213) := ⟨h4_⟩
                  have n5_ : Aside0 (gb205 ≠ gb213) := ⟨h5_⟩
                  have n6_ : Aside0 (gb213 ≠ gb205) := ⟨h6_⟩
                  have n7_ : Aside0 (gb206 ≠ gb213) := ⟨h7_⟩
                  have n8_ : Aside0 (gb213 ≠ gb206) := ⟨h8_⟩
                  have n9_ : Aside0 (Below w.heap.size w w39) := ⟨h9_⟩
                  clear BK205
                  clear BK206
                  clear HB
                  clear h0_ h1_ h2_ h3_ h4_ h5_ h6_ h7_ h8_ h9_
                  have BK205 := n0_
                  have BK206 := n1_
                  have BK213 := n2_
                  have GW213 := n3_
                  have GE213 := n4_
                  have NB205_213 := n5_
                  have NB213_205 := n6_
                  have NB206_213 := n7_
                  have NB213_206 := n8_
                  have HB := n9_
                  clear n0_ n1_ n2_ n3_ n4_ n5_ n6_ n7_ n8_ n9_
                  have hHeld : w39.cell? ⟨gb205, 0, none⟩ = some (.int .i64 a0_0) ∧ w39.cell? ⟨gb205, 1, none⟩ = some (.int .u64 a0_1) ∧ w39.cell? ⟨gb206, 0, none⟩ = some (.int .i64 a1_0) ∧ w39.cell? ⟨gb206, 1, none⟩ = some (.int .u64 a1_1) := hS_
                  refine norm_ (a' := ?_) ?_ ?_
                  rotate_left
                  · simp only [putAll, Act.put, List.setIfInBounds_toArray, List.set_cons_zero, List.set_cons_succ]
                    rfl
                  refine one_ (i := 4) (N := some 5) #[true, true, true, true, true, true, false, false] rfl rfl (one_of HT_.out (by kernel_rfl)) (by decide) (fun K hK => ?_)
                  refine box_step ?hg (N := 5) ?hd (cs := #[.int .i64 0, .int .u64 0]) (t := 28) ?hr ?_; (case hd => rfl); (case hg => rfl); (case hr => first | (go_simp; done) | (go_simp; rfl))
                  intro gb212 hg w40 hbox hb
                  have n0_ := Aside0.mk (blk_below (g := gb205) (o := .cells #[.int .i64 a0_0, .int .u64 a0_1] 24 (0, 0)) (by (with_reducible repeat (first | refine blk_drewN ?_ _ | refine blk_alloc ?_ _)); exact BK205.out) hb)
                  have n1_ := Aside0.mk (blk_below (g := gb206) (o := .cells #[.int .i64 a1_0, .int .u64 a1_1] 24 (0, 0)) (by (with_reducible repeat (first | refine blk_drewN ?_ _ | refine blk_alloc ?_ _)); exact BK206.out) hb)
                  have n2_ := Aside0.mk (blk_below (g := gb213) (o := .cells #[.int .i64 0, .int .u64 0] 28 (0, 0)) (by (with_reducible repeat (first | refine blk_drewN ?_ _ | refine blk_alloc ?_ _)); exact BK213.out) hb)
                  have n3_ := Aside0.mk (below_step (by repeat (first | (with_reducible first | exact HB.out | apply below_alloc | apply pw_below_drewN | apply below_drew1 | refine below_set ?_ GE205.out | refine below_set ?_ GE206.out | refine below_set ?_ GE213.out) | exact HB.out)) hb)
                  have n4_ := Aside0.mk (hbox)
                  have n5_ := Aside0.mk ((by rw [hg]; exact (below_size (by repeat (first | (with_reducible first | exact HB.out | apply below_alloc | apply pw_below_drewN | apply below_drew1 | refine below_set ?_ GE205.out | refine below_set ?_ GE206.out | refine below_set ?_ GE213.out) | exact HB.out))) : w.heap.size ≤ gb212))
                  have n6_ := Aside0.mk ((by rw [hg]; exact (below_size (by repeat (first | (with_reducible first | exact HB.out | apply below_alloc | apply pw_below_drewN | apply below_drew1 | refine below_set ?_ GE205.out | refine below_set ?_ GE206.out | refine below_set ?_ GE213.out) | exact HB.out))) : w.heap.size ≤ gb212))
                  have n7_ := Aside0.mk ((by rw [hg]; exact Nat.ne_of_lt (blk_lt (g := gb205) (o := .cells #[.int .i64 a0_0, .int .u64 a0_1] 24 (0, 0)) (by (with_reducible repeat (first | refine blk_drewN ?_ _ | refine blk_alloc ?_ _)); exact BK205.out)) : gb205 ≠ gb212))
                  have n8_ := Aside0.mk ((by rw [hg]; exact Nat.ne_of_gt (blk_lt (g := gb205) (o := .cells #[.int .i64 a0_0, .int .u64 a0_1] 24 (0, 0)) (by (with_reducible repeat (first | refine blk_drewN ?_ _ | refine blk_alloc ?_ _)); exact BK205.out)) : gb212 ≠ gb205))
                  have n9_ := Aside0.mk ((by rw [hg]; exact Nat.ne_of_lt (blk_lt (g := gb206) (o := .cells #[.int .i64 a1_0, .int .u64 a1_1] 24 (0, 0)) (by (with_reducible repeat (first | refine blk_drewN ?_ _ | refine blk_alloc ?_ _)); exact BK206.out)) : gb206 ≠ gb212))
                  have n10_ := Aside0.mk ((by rw [hg]; exact Nat.ne_of_gt (blk_lt (g := gb206) (o := .cells #[.int .i64 a1_0, .int .u64 a1_1] 24 (0, 0)) (by (with_reducible repeat (first | refine blk_drewN ?_ _ | refine blk_alloc ?_ _)); exact BK206.out)) : gb212 ≠ gb206))
                  have n11_ := Aside0.mk ((by rw [hg]; exact Nat.ne_of_lt (blk_lt (g := gb213) (o := .cells #[.int .i64 0, .int .u64 0] 28 (0, 0)) (by (with_reducible repeat (first | refine blk_drewN ?_ _ | refine blk_alloc ?_ _)); exact BK213.out)) : gb213 ≠ gb212))
                  have n12_ := Aside0.mk ((by rw [hg]; exact Nat.ne_of_gt (blk_lt (g := gb213) (o := .cells #[.int .i64 0, .int .u64 0] 28 (0, 0)) (by (with_reducible repeat (first | refine blk_drewN ?_ _ | refine blk_alloc ?_ _)); exact BK213.out)) : gb212 ≠ gb213))
                  clear BK205
                  clear BK206
                  clear BK213
                  clear HB
                  have BK205 := n0_
                  have BK206 := n1_
                  have BK213 := n2_
                  have HB := n3_
                  have BK212 := n4_
                  have GW212 := n5_
                  have GE212 := n6_
                  have NB205_212 := n7_
                  have NB212_205 := n8_
                  have NB206_212 := n9_
                  have NB212_206 := n10_
                  have NB213_212 := n11_
                  have NB212_213 := n12_
                  clear n0_ n1_ n2_ n3_ n4_ n5_ n6_ n7_ n8_ n9_ n10_ n11_ n12_
                  clear hb hbox hg
                  refine hK.out _ _ ⟨(blk_cell BK205.out 0).trans rfl, (blk_cell BK205.out 1).trans rfl, (blk_cell BK206.out 0).trans rfl, (blk_cell BK206.out 1).trans rfl⟩ (fun hHeld => ?_)
                  clear hK K
                  refine norm_ (a' := ?_) ?_ ?_
                  rotate_left
                  · show Act.put _ (some 5) _ = _
                    simp only [Act.put, List.setIfInBounds_toArray, List.set_cons_zero, List.set_cons_succ, i64_w, i32_w]
                    rfl
                  exact norm_ (by first | (simp only [putAll, Act.put, List.setIfInBounds_toArray, List.set_cons_zero, List.set_cons_succ]; done) | (simp only [putAll, Act.put, List.setIfInBounds_toArray, List.set_cons_zero, List.set_cons_succ]; rfl)) (hJ1_3_4_5 (gb212, gb213) _ ⟨hHeld, (by (with_reducible repeat (first | refine blk_drewN ?_ _ | refine blk_alloc ?_ _)); exact BK205.out), (by (with_reducible repeat (first | refine blk_drewN ?_ _ | refine blk_alloc ?_ _)); exact BK206.out), (by (with_reducible repeat (first | refine blk_drewN ?_ _ | refine blk_alloc ?_ _)); exact BK212.out), (by (with_reducible repeat (first | refine blk_drewN ?_ _ | refine blk_alloc ?_ _)); exact BK213.out), GW212.out, GE212.out, NB205_212.out, NB212_205.out, NB206_212.out, NB212_206.out, NB213_212.out, NB212_213.out, GW213.out, GE213.out, NB205_213.out, NB213_205.out, NB206_213.out, NB213_206.out, (by repeat (first | (with_reducible first | exact HB.out | apply below_alloc | apply pw_below_drewN | apply below_drew1 | refine below_set ?_ GE205.out | refine below_set ?_ GE206.out | refine below_set ?_ GE213.out | refine below_set ?_ GE212.out) | exact HB.out))⟩)
              · skip
                rintro gb212 w39 ⟨hS_, h0_, h1_, h2_, h3_, h4_, h5_, h6_, h7_, h8_, h9_⟩
                have n0_ : Aside0 (w39.heap[gb205]? = some (.cells #[.int .i64 a0_0, .int .u64 a0_1] 24 (0, 0))) := ⟨h0_⟩
                have n1_ : Aside0 (w39.heap[gb206]? = some (.cells #[.int .i64 a1_0, .int .u64 a1_1] 24 (0, 0))) := ⟨h1_⟩
                have n2_ : Aside0 (w39.heap[gb212]? = some (.cells #[.int .i64 0, .int .u64 0] 28 (0, 0))) := ⟨h2_⟩
                have n3_ : Aside0 (w.heap.size ≤ gb212) := ⟨h3_⟩
                have n4_ : Aside0 (w.heap.size ≤ gb212) := ⟨h4_⟩
                have n5_ : Aside0 (gb205 ≠ gb212) := ⟨h5_⟩
                have n6_ : Aside0 (gb212 ≠ gb205) := ⟨h6_⟩
                have n7_ : Aside0 (gb206 ≠ gb212) := ⟨h7_⟩
                have n8_ : Aside0 (gb212 ≠ gb206) := ⟨h8_⟩
                have n9_ : Aside0 (Below w.heap.size w w39) := ⟨h9_⟩
                clear BK205
                clear BK206
                clear HB
                clear h0_ h1_ h2_ h3_ h4_ h5_ h6_ h7_ h8_ h9_
                have BK205 := n0_
                have BK206 := n1_
                have BK212 := n2_
                have GW212 := n3_
                have GE212 := n4_
                have NB205_212 := n5_
                have NB212_205 := n6_
                have NB206_212 := n7_
                have NB212_206 := n8_
                have HB := n9_
                clear n0_ n1_ n2_ n3_ n4_ n5_ n6_ n7_ n8_ n9_
                have hHeld : w39.cell? ⟨gb205, 0, none⟩ = some (.int .i64 a0_0) ∧ w39.cell? ⟨gb205, 1, none⟩ = some (.int .u64 a0_1) ∧ w39.cell? ⟨gb206, 0, none⟩ = some (.int .i64 a1_0) ∧ w39.cell? ⟨gb206, 1, none⟩ = some (.int .u64 a1_1) := hS_
                refine norm_ (a' := ?_) ?_ ?_
                rotate_left
                · simp only [putAll, Act.put, List.setIfInBounds_toArray, List.set_cons_zero, List.set_cons_succ]
                  rfl
                refine one_ (i := 5) (N := some 6) #[true, true, true, true, true, true, false, false] rfl rfl (one_of HT_.out (by kernel_rfl)) (by decide) (fun K hK => ?_)
                refine box_step ?hg (N := 6) ?hd (cs := #[.int .i64 0, .int .u64 0]) (t := 28) ?hr ?_; (case hd => rfl); (case hg => rfl); (case hr => first | (go_simp; done) | (go_simp; rfl))
                intro gb213 hg w40 hbox hb
                have n0_ := Aside0.mk (blk_below (g := gb205) (o := .cells #[.int .i64 a0_0, .int .u64 a0_1] 24 (0, 0)) (by (with_reducible repeat (first | refine blk_drewN ?_ _ | refine blk_alloc ?_ _)); exact BK205.out) hb)
                have n1_ := Aside0.mk (blk_below (g := gb206) (o := .cells #[.int .i64 a1_0, .int .u64 a1_1] 24 (0, 0)) (by (with_reducible repeat (first | refine blk_drewN ?_ _ | refine blk_alloc ?_ _)); exact BK206.out) hb)
                have n2_ := Aside0.mk (blk_below (g := gb212) (o := .cells #[.int .i64 0, .int .u64 0] 28 (0, 0)) (by (with_reducible repeat (first | refine blk_drewN ?_ _ | refine blk_alloc ?_ _)); exact BK212.out) hb)
                have n3_ := Aside0.mk (below_step (by repeat (first | (with_reducible first | exact HB.out | apply below_alloc | apply pw_below_drewN | apply below_drew1 | refine below_set ?_ GE205.out | refine below_set ?_ GE206.out | refine below_set ?_ GE212.out) | exact HB.out)) hb)
                have n4_ := Aside0.mk (hbox)
                have n5_ := Aside0.mk ((by rw [hg]; exact (below_size (by repeat (first | (with_reducible first | exact HB.out | apply below_alloc | apply pw_below_drewN | apply below_drew1 | refine below_set ?_ GE205.out | refine below_set ?_ GE206.out | refine below_set ?_ GE212.out) | exact HB.out))) : w.heap.size ≤ gb213))
                have n6_ := Aside0.mk ((by rw [hg]; exact (below_size (by repeat (first | (with_reducible first | exact HB.out | apply below_alloc | apply pw_below_drewN | apply below_drew1 | refine below_set ?_ GE205.out | refine below_set ?_ GE206.out | refine below_set ?_ GE212.out) | exact HB.out))) : w.heap.size ≤ gb213))
                have n7_ := Aside0.mk ((by rw [hg]; exact Nat.ne_of_lt (blk_lt (g := gb205) (o := .cells #[.int .i64 a0_0, .int .u64 a0_1] 24 (0, 0)) (by (with_reducible repeat (first | refine blk_drewN ?_ _ | refine blk_alloc ?_ _)); exact BK205.out)) : gb205 ≠ gb213))
                have n8_ := Aside0.mk ((by rw [hg]; exact Nat.ne_of_gt (blk_lt (g := gb205) (o := .cells #[.int .i64 a0_0, .int .u64 a0_1] 24 (0, 0)) (by (with_reducible repeat (first | refine blk_drewN ?_ _ | refine blk_alloc ?_ _)); exact BK205.out)) : gb213 ≠ gb205))
                have n9_ := Aside0.mk ((by rw [hg]; exact Nat.ne_of_lt (blk_lt (g := gb206) (o := .cells #[.int .i64 a1_0, .int .u64 a1_1] 24 (0, 0)) (by (with_reducible repeat (first | refine blk_drewN ?_ _ | refine blk_alloc ?_ _)); exact BK206.out)) : gb206 ≠ gb213))
                have n10_ := Aside0.mk ((by rw [hg]; exact Nat.ne_of_gt (blk_lt (g := gb206) (o := .cells #[.int .i64 a1_0, .int .u64 a1_1] 24 (0, 0)) (by (with_reducible repeat (first | refine blk_drewN ?_ _ | refine blk_alloc ?_ _)); exact BK206.out)) : gb213 ≠ gb206))
                have n11_ := Aside0.mk ((by rw [hg]; exact Nat.ne_of_lt (blk_lt (g := gb212) (o := .cells #[.int .i64 0, .int .u64 0] 28 (0, 0)) (by (with_reducible repeat (first | refine blk_drewN ?_ _ | refine blk_alloc ?_ _)); exact BK212.out)) : gb212 ≠ gb213))
                have n12_ := Aside0.mk ((by rw [hg]; exact Nat.ne_of_gt (blk_lt (g := gb212) (o := .cells #[.int .i64 0, .int .u64 0] 28 (0, 0)) (by (with_reducible repeat (first | refine blk_drewN ?_ _ | refine blk_alloc ?_ _)); exact BK212.out)) : gb213 ≠ gb212))
                clear BK205
                clear BK206
                clear BK212
                clear HB
                have BK205 := n0_
                have BK206 := n1_
                have BK212 := n2_
                have HB := n3_
                have BK213 := n4_
                have GW213 := n5_
                have GE213 := n6_
                have NB205_213 := n7_
                have NB213_205 := n8_
                have NB206_213 := n9_
                have NB213_206 := n10_
                have NB212_213 := n11_
                have NB213_212 := n12_
                clear n0_ n1_ n2_ n3_ n4_ n5_ n6_ n7_ n8_ n9_ n10_ n11_ n12_
                clear hb hbox hg
                refine hK.out _ _ ⟨(blk_cell BK205.out 0).trans rfl, (blk_cell BK205.out 1).trans rfl, (blk_cell BK206.out 0).trans rfl, (blk_cell BK206.out 1).trans rfl⟩ (fun hHeld => ?_)
                clear hK K
                refine norm_ (a' := ?_) ?_ ?_
                rotate_left
                · show Act.put _ (some 6) _ = _
                  simp only [Act.put, List.setIfInBounds_toArray, List.set_cons_zero, List.set_cons_succ, i64_w, i32_w]
                  rfl
                exact norm_ (by first | (simp only [putAll, Act.put, List.setIfInBounds_toArray, List.set_cons_zero, List.set_cons_succ]; done) | (simp only [putAll, Act.put, List.setIfInBounds_toArray, List.set_cons_zero, List.set_cons_succ]; rfl)) (hJ1_3_4_5 (gb212, gb213) _ ⟨hHeld, (by (with_reducible repeat (first | refine blk_drewN ?_ _ | refine blk_alloc ?_ _)); exact BK205.out), (by (with_reducible repeat (first | refine blk_drewN ?_ _ | refine blk_alloc ?_ _)); exact BK206.out), (by (with_reducible repeat (first | refine blk_drewN ?_ _ | refine blk_alloc ?_ _)); exact BK212.out), (by (with_reducible repeat (first | refine blk_drewN ?_ _ | refine blk_alloc ?_ _)); exact BK213.out), GW212.out, GE212.out, NB205_212.out, NB212_205.out, NB206_212.out, NB212_206.out, NB213_212.out, NB212_213.out, GW213.out, GE213.out, NB205_213.out, NB213_205.out, NB206_213.out, NB213_206.out, (by repeat (first | (with_reducible first | exact HB.out | apply below_alloc | apply pw_below_drewN | apply below_drew1 | refine below_set ?_ GE205.out | refine below_set ?_ GE206.out | refine below_set ?_ GE212.out | refine below_set ?_ GE213.out) | exact HB.out))⟩)
            rintro ⟨gb212, gb213⟩ w40 ⟨hS_, h0_, h1_, h2_, h3_, h4_, h5_, h6_, h7_, h8_, h9_, h10_, h11_, h12_, h13_, h14_, h15_, h16_, h17_, h18_⟩
            have n0_ : Aside0 (w40.heap[gb205]? = some (.cells #[.int .i64 a0_0, .int .u64 a0_1] 24 (0, 0))) := ⟨h0_⟩
            have n1_ : Aside0 (w40.heap[gb206]? = some (.cells #[.int .i64 a1_0, .int .u64 a1_1] 24 (0, 0))) := ⟨h1_⟩
            have n2_ : Aside0 (w40.heap[gb212]? = some (.cells #[.int .i64 0, .int .u64 0] 28 (0, 0))) := ⟨h2_⟩
            have n3_ : Aside0 (w40.heap[gb213]? = some (.cells #[.int .i64 0, .int .u64 0] 28 (0, 0))) := ⟨h3_⟩
            have n4_ : Aside0 (w.heap.size ≤ gb212) := ⟨h4_⟩
            have n5_ : Aside0 (w.heap.size ≤ gb212) := ⟨h5_⟩
            have n6_ : Aside0 (gb205 ≠ gb212) := ⟨h6_⟩
            have n7_ : Aside0 (gb212 ≠ gb205) := ⟨h7_⟩
            have n8_ : Aside0 (gb206 ≠ gb212) := ⟨h8_⟩
            have n9_ : Aside0 (gb212 ≠ gb206) := ⟨h9_⟩
            have n10_ : Aside0 (gb213 ≠ gb212) := ⟨h10_⟩
            have n11_ : Aside0 (gb212 ≠ gb213) := ⟨h11_⟩
            have n12_ : Aside0 (w.heap.size ≤ gb213) := ⟨h12_⟩
            have n13_ : Aside0 (w.heap.size ≤ gb213) := ⟨h13_⟩
            have n14_ : Aside0 (gb205 ≠ gb213) := ⟨h14_⟩
            have n15_ : Aside0 (gb213 ≠ gb205) := ⟨h15_⟩
            have n16_ : Aside0 (gb206 ≠ gb213) := ⟨h16_⟩
            have n17_ : Aside0 (gb213 ≠ gb206) := ⟨h17_⟩
            have n18_ : Aside0 (Below w.heap.size w w40) := ⟨h18_⟩
            clear BK205
            clear BK206
            clear HB
            clear h0_ h1_ h2_ h3_ h4_ h5_ h6_ h7_ h8_ h9_ h10_ h11_ h12_ h13_ h14_ h15_ h16_ h17_ h18_
            have BK205 := n0_
            have BK206 := n1_
            have BK212 := n2_
            have BK213 := n3_
            have GW212 := n4_
            have GE212 := n5_
            have NB205_212 := n6_
            have NB212_205 := n7_
            have NB206_212 := n8_
            have NB212_206 := n9_
            have NB213_212 := n10_
            have NB212_213 := n11_
            have GW213 := n12_
            have GE213 := n13_
            have NB205_213 := n14_
            have NB213_205 := n15_
            have NB206_213 := n16_
            have NB213_206 := n17_
            have HB := n18_
            clear n0_ n1_ n2_ n3_ n4_ n5_ n6_ n7_ n8_ n9_ n10_ n11_ n12_ n13_ n14_ n15_ n16_ n17_ n18_
            have hHeld : w40.cell? ⟨gb205, 0, none⟩ = some (.int .i64 a0_0) ∧ w40.cell? ⟨gb205, 1, none⟩ = some (.int .u64 a0_1) ∧ w40.cell? ⟨gb206, 0, none⟩ = some (.int .i64 a1_0) ∧ w40.cell? ⟨gb206, 1, none⟩ = some (.int .u64 a1_1) := hS_
            refine norm_ (a' := ?_) ?_ ?_
            rotate_left
            · simp only [putAll, Act.put, List.setIfInBounds_toArray, List.set_cons_zero, List.set_cons_succ]
              rfl
            refine one_ (i := 6) (N := none) #[true, true, true, true, true, true, true, false] rfl rfl (one_of HT_.out (by kernel_rfl)) (by decide) (fun K hK => ?_)
            have hs41 : w40.cell? ⟨gb212, 0, none⟩ = some (.int .i64 0) := (blk_cell BK212.out 0).trans rfl
            have hfs41 := blk_frozen BK212.out 0
            have hns41_0 := NB205_212.out
            have hns41_1 := NB206_212.out
            have hns41_3 := NB213_212.out
            have hms41_0 := NB212_205.out
            have hms41_1 := NB212_206.out
            have hms41_3 := NB212_213.out
            have hs42 : w40.cell? ⟨gb212, 1, none⟩ = some (.int .u64 0) := (blk_cell BK212.out 1).trans rfl
            have hfs42 := blk_frozen BK212.out 1
            have hns42_0 := NB205_212.out
            have hns42_1 := NB206_212.out
            have hns42_3 := NB213_212.out
            have hms42_0 := NB212_205.out
            have hms42_1 := NB212_206.out
            have hms42_3 := NB212_213.out
            refine skip_ (w1 := ?_) ?_ ?_ ?_ ?_
            rotate_left
            · rfl
            · rfl
            · go_simp
              rfl
            clear hs41 hfs41 hns41_0 hns41_1 hns41_3 hms41_0 hms41_1 hms41_3 hs42 hfs42 hns42_0 hns42_1 hns42_3 hms42_0 hms42_1 hms42_3
            refine hK.out _ _ ⟨((cell_far (p := ⟨gb212, _, none⟩) NB205_212.out _).trans (((cell_far (p := ⟨gb212, _, none⟩) NB205_212.out _).trans (hHeld.1)))), ((cell_far (p := ⟨gb212, _, none⟩) NB205_212.out _).trans (((cell_far (p := ⟨gb212, _, none⟩) NB205_212.out _).trans (hHeld.2.1)))), ((cell_far (p := ⟨gb212, _, none⟩) NB206_212.out _).trans (((cell_far (p := ⟨gb212, _, none⟩) NB206_212.out _).trans (hHeld.2.2.1)))), ((cell_far (p := ⟨gb212, _, none⟩) NB206_212.out _).trans (((cell_far (p := ⟨gb212, _, none⟩) NB206_212.out _).trans (hHeld.2.2.2))))⟩ (fun hHeld => ?_)
            clear hK K
            refine one_ (i := 7) (N := none) #[true, true, true, true, true, true, true, true] rfl rfl (one_of HT_.out (by kernel_rfl)) (by decide) (fun K hK => ?_)
            have hs43 : w40.cell? ⟨gb213, 0, none⟩ = some (.int .i64 0) := (blk_cell BK213.out 0).trans rfl
            have hfs43 := blk_frozen BK213.out 0
            have hns43_0 := NB205_213.out
            have hns43_1 := NB206_213.out
            have hns43_2 := NB212_213.out
            have hms43_0 := NB213_205.out
            have hms43_1 := NB213_206.out
            have hms43_2 := NB213_212.out
            have hs44 : w40.cell? ⟨gb213, 1, none⟩ = some (.int .u64 0) := (blk_cell BK213.out 1).trans rfl
            have hfs44 := blk_frozen BK213.out 1
            have hns44_0 := NB205_213.out
            have hns44_1 := NB206_213.out
            have hns44_2 := NB212_213.out
            have hms44_0 := NB213_205.out
            have hms44_1 := NB213_206.out
            have hms44_2 := NB213_212.out
            refine skip_ (w1 := ?_) ?_ ?_ ?_ ?_
            rotate_left
            · rfl
            · rfl
            · go_simp
              rfl
            clear hs43 hfs43 hns43_0 hns43_1 hns43_2 hms43_0 hms43_1 hms43_2 hs44 hfs44 hns44_0 hns44_1 hns44_2 hms44_0 hms44_1 hms44_2
            refine hK.out _ _ ⟨((cell_far (p := ⟨gb213, _, none⟩) NB205_213.out _).trans (((cell_far (p := ⟨gb213, _, none⟩) NB205_213.out _).trans (hHeld.1)))), ((cell_far (p := ⟨gb213, _, none⟩) NB205_213.out _).trans (((cell_far (p := ⟨gb213, _, none⟩) NB205_213.out _).trans (hHeld.2.1)))), ((cell_far (p := ⟨gb213, _, none⟩) NB206_213.out _).trans (((cell_far (p := ⟨gb213, _, none⟩) NB206_213.out _).trans (hHeld.2.2.1)))), ((cell_far (p := ⟨gb213, _, none⟩) NB206_213.out _).trans (((cell_far (p := ⟨gb213, _, none⟩) NB206_213.out _).trans (hHeld.2.2.2))))⟩ (fun hHeld => ?_)
            clear hK K
            refine done_ (done_of HT_.out (by kernel_rfl)) ?_
            try go_wp2
            have n0_ : Aside0 (((((w40.setCell ⟨gb212, 0, none⟩ (.int .i64 t208)).setCell ⟨gb212, 1, none⟩ (.int .u64 t209)).setCell ⟨gb213, 0, none⟩ (.int .i64 t210)).setCell ⟨gb213, 1, none⟩ (.int .u64 t211)).heap[gb205]? = some (.cells #[.int .i64 a0_0, .int .u64 a0_1] 24 (0, 0))) := ⟨by (with_reducible repeat (first | refine blk_drewN ?_ _ | refine blk_alloc ?_ _)); refine blk_far ?_ NB205_213.out _; (with_reducible repeat (first | refine blk_drewN ?_ _ | refine blk_alloc ?_ _)); refine blk_far ?_ NB205_213.out _; (with_reducible repeat (first | refine blk_drewN ?_ _ | refine blk_alloc ?_ _)); refine blk_far ?_ NB205_212.out _; (with_reducible repeat (first | refine blk_drewN ?_ _ | refine blk_alloc ?_ _)); refine blk_far ?_ NB205_212.out _; (with_reducible repeat (first | refine blk_drewN ?_ _ | refine blk_alloc ?_ _)); exact BK205.out⟩
            have n1_ : Aside0 (((((w40.setCell ⟨gb212, 0, none⟩ (.int .i64 t208)).setCell ⟨gb212, 1, none⟩ (.int .u64 t209)).setCell ⟨gb213, 0, none⟩ (.int .i64 t210)).setCell ⟨gb213, 1, none⟩ (.int .u64 t211)).heap[gb206]? = some (.cells #[.int .i64 a1_0, .int .u64 a1_1] 24 (0, 0))) := ⟨by (with_reducible repeat (first | refine blk_drewN ?_ _ | refine blk_alloc ?_ _)); refine blk_far ?_ NB206_213.out _; (with_reducible repeat (first | refine blk_drewN ?_ _ | refine blk_alloc ?_ _)); refine blk_far ?_ NB206_213.out _; (with_reducible repeat (first | refine blk_drewN ?_ _ | refine blk_alloc ?_ _)); refine blk_far ?_ NB206_212.out _; (with_reducible repeat (first | refine blk_drewN ?_ _ | refine blk_alloc ?_ _)); refine blk_far ?_ NB206_212.out _; (with_reducible repeat (first | refine blk_drewN ?_ _ | refine blk_alloc ?_ _)); exact BK206.out⟩
            have n2_ : Aside0 (((((w40.setCell ⟨gb212, 0, none⟩ (.int .i64 t208)).setCell ⟨gb212, 1, none⟩ (.int .u64 t209)).setCell ⟨gb213, 0, none⟩ (.int .i64 t210)).setCell ⟨gb213, 1, none⟩ (.int .u64 t211)).heap[gb212]? = some (.cells #[.int .i64 t208, .int .u64 t209] 28 (0, 0))) := ⟨by (with_reducible repeat (first | refine blk_drewN ?_ _ | refine blk_alloc ?_ _)); refine blk_far ?_ NB212_213.out _; (with_reducible repeat (first | refine blk_drewN ?_ _ | refine blk_alloc ?_ _)); refine blk_far ?_ NB212_213.out _; (with_reducible repeat (first | refine blk_drewN ?_ _ | refine blk_alloc ?_ _)); refine blk_put (cs := #[.int .i64 t208, .int .u64 0]) ?_ 1 _ rfl; (with_reducible repeat (first | refine blk_drewN ?_ _ | refine blk_alloc ?_ _)); refine blk_put (cs := #[.int .i64 0, .int .u64 0]) ?_ 0 _ rfl; (with_reducible repeat (first | refine blk_drewN ?_ _ | refine blk_alloc ?_ _)); exact BK212.out⟩
            have n3_ : Aside0 (((((w40.setCell ⟨gb212, 0, none⟩ (.int .i64 t208)).setCell ⟨gb212, 1, none⟩ (.int .u64 t209)).setCell ⟨gb213, 0, none⟩ (.int .i64 t210)).setCell ⟨gb213, 1, none⟩ (.int .u64 t211)).heap[gb213]? = some (.cells #[.int .i64 t210, .int .u64 t211] 28 (0, 0))) := ⟨by (with_reducible repeat (first | refine blk_drewN ?_ _ | refine blk_alloc ?_ _)); refine blk_put (cs := #[.int .i64 t210, .int .u64 0]) ?_ 1 _ rfl; (with_reducible repeat (first | refine blk_drewN ?_ _ | refine blk_alloc ?_ _)); refine blk_put (cs := #[.int .i64 0, .int .u64 0]) ?_ 0 _ rfl; (with_reducible repeat (first | refine blk_drewN ?_ _ | refine blk_alloc ?_ _)); refine blk_far ?_ NB213_212.out _; (with_reducible repeat (first | refine blk_drewN ?_ _ | refine blk_alloc ?_ _)); refine blk_far ?_ NB213_212.out _; (with_reducible repeat (first | refine blk_drewN ?_ _ | refine blk_alloc ?_ _)); exact BK213.out⟩
            have n4_ : Aside0 (Below w.heap.size w ((((w40.setCell ⟨gb212, 0, none⟩ (.int .i64 t208)).setCell ⟨gb212, 1, none⟩ (.int .u64 t209)).setCell ⟨gb213, 0, none⟩ (.int .i64 t210)).setCell ⟨gb213, 1, none⟩ (.int .u64 t211))) := ⟨by repeat (first | (with_reducible first | exact HB.out | apply below_alloc | apply pw_below_drewN | apply below_drew1 | refine below_set ?_ GE205.out | refine below_set ?_ GE206.out | refine below_set ?_ GE212.out | refine below_set ?_ GE213.out) | exact HB.out)⟩
            (try clear BK205)
            (try clear BK206)
            (try clear BK212)
            (try clear BK213)
            (try clear HB)
            generalize ((((w40.setCell ⟨gb212, 0, none⟩ (.int .i64 t208)).setCell ⟨gb212, 1, none⟩ (.int .u64 t209)).setCell ⟨gb213, 0, none⟩ (.int .i64 t210)).setCell ⟨gb213, 1, none⟩ (.int .u64 t211)) = w45 at n0_ n1_ n2_ n3_ n4_ ⊢
            have BK205 := n0_
            have BK206 := n1_
            have BK212 := n2_
            have BK213 := n3_
            have HB := n4_
            clear n0_ n1_ n2_ n3_ n4_
            have n0_ := Aside0.mk (blk_drew BK205.out)
            have n1_ := Aside0.mk (blk_drew BK206.out)
            have n2_ := Aside0.mk (blk_drew BK212.out)
            have n3_ := Aside0.mk (blk_drew BK213.out)
            have n4_ := Aside0.mk (below_drew1 HB.out)
            clear BK205
            clear BK206
            clear BK212
            clear BK213
            clear HB
            have BK205 := n0_
            have BK206 := n1_
            have BK212 := n2_
            have BK213 := n3_
            have HB := n4_
            clear n0_ n1_ n2_ n3_ n4_
            refine start_ (n := 48) (S := fun w' => w'.cell? ⟨gb212, 0, none⟩ = some (.int .i64 t208) ∧ w'.cell? ⟨gb212, 1, none⟩ = some (.int .u64 t209) ∧ w'.cell? ⟨gb213, 0, none⟩ = some (.int .i64 t210) ∧ w'.cell? ⟨gb213, 1, none⟩ = some (.int .u64 t211) ∧ w'.cell? ⟨gb205, 0, none⟩ = some (.int .i64 a0_0) ∧ w'.cell? ⟨gb205, 1, none⟩ = some (.int .u64 a0_1) ∧ w'.cell? ⟨gb206, 0, none⟩ = some (.int .i64 a1_0) ∧ w'.cell? ⟨gb206, 1, none⟩ = some (.int .u64 a1_1)) (ds := []) #[false, false, false, false, false, false, false, false, false, false, false, false, false, false, false, false, false, false, false, false, false, false, false, false, false, false, false, false, false, false, false, false, false, false, false, false, false, false, false, false, false, false, false, false, false, false, false, false] (by kernel_rfl) rfl rfl ⟨(blk_cell BK212.out 0).trans rfl, (blk_cell BK212.out 1).trans rfl, (blk_cell BK213.out 0).trans rfl, (blk_cell BK213.out 1).trans rfl, (blk_cell BK205.out 0).trans rfl, (blk_cell BK205.out 1).trans rfl, (blk_cell BK206.out 0).trans rfl, (blk_cell BK206.out 1).trans rfl⟩ (fun hHeld => ?_); refine with_tabW calamuslaw01_WideAdds.tab4 calamuslaw01_WideAdds.bits4 (fun HT_ HW_ => ?_)
            generalize w45.drew = w46 at BK205 BK206 BK212 BK213 HB hHeld ⊢
            refine take_ (i := 0) (N := some 13) (v := ?_) (a' := ?_) #[true, false, false, false, false, false, false, false, false, false, false, false, false, false, false, false, false, false, false, false, false, false, false, false, false, false, false, false, false, false, false, false, false, false, false, false, false, false, false, false, false, false, false, false, false, false, false, false] rfl rfl (take_ofW HT_.out HW_.out (by kernel_rfl)) (fun _ _ _ h => h) (Or.inl ⟨by rfl, ?_⟩) hHeld ?_ ?_
            rotate_left
            · rintro w' ⟨s0, s1, s2, s3, s4, s5, s6, s7⟩
              go_simp
              with_reducible rfl
            rotate_left
            · simp only [Act.put, List.setIfInBounds_toArray, List.set_cons_zero, List.set_cons_succ, i64_w, i32_w]
              rfl
            refine take_ (i := 1) (N := some 14) (v := ?_) (a' := ?_) #[true, true, false, false, false, false, false, false, false, false, false, false, false, false, false, false, false, false, false, false, false, false, false, false, false, false, false, false, false, false, false, false, false, false, false, false, false, false, false, false, false, false, false, false, false, false, false, false] rfl rfl (take_ofW HT_.out HW_.out (by kernel_rfl)) (fun _ _ _ h => h) (Or.inl ⟨by rfl, ?_⟩) hHeld ?_ ?_
            rotate_left
            · rintro w' ⟨s0, s1, s2, s3, s4, s5, s6, s7⟩
              go_simp
              with_reducible rfl
            rotate_left
            · simp only [Act.put, List.setIfInBounds_toArray, List.set_cons_zero, List.set_cons_succ, i64_w, i32_w]
              rfl
            refine take_ (i := 3) (N := some 16) (v := ?_) (a' := ?_) #[true, true, false, true, false, false, false, false, false, false, false, false, false, false, false, false, false, false, false, false, false, false, false, false, false, false, false, false, false, false, false, false, false, false, false, false, false, false, false, false, false, false, false, false, false, false, false, false] rfl rfl (take_ofW HT_.out HW_.out (by kernel_rfl)) (fun _ _ _ h => h) (Or.inl ⟨by rfl, ?_⟩) hHeld ?_ ?_
            rotate_left
            · rintro w' ⟨s0, s1, s2, s3, s4, s5, s6, s7⟩
              go_simp
              with_reducible rfl
            rotate_left
            · simp only [Act.put, List.setIfInBounds_toArray, List.set_cons_zero, List.set_cons_succ, i64_w, i32_w]
              rfl
            refine take_ (i := 5) (N := some 18) (v := ?_) (a' := ?_) #[true, true, false, true, false, true, false, false, false, false, false, false, false, false, false, false, false, false, false, false, false, false, false, false, false, false, false, false, false, false, false, false, false, false, false, false, false, false, false, false, false, false, false, false, false, false, false, false] rfl rfl (take_ofW HT_.out HW_.out (by kernel_rfl)) (fun _ _ _ h => h) (Or.inl ⟨by rfl, ?_⟩) hHeld ?_ ?_
            rotate_left
            · rintro w' ⟨s0, s1, s2, s3, s4, s5, s6, s7⟩
              go_simp
              with_reducible rfl
            rotate_left
            · simp only [Act.put, List.setIfInBounds_toArray, List.set_cons_zero, List.set_cons_succ, i64_w, i32_w]
              rfl
            refine one_ (i := 2) (N := some 15) #[true, true, true, true, false, true, false, false, false, false, false, false, false, false, false, false, false, false, false, false, false, false, false, false, false, false, false, false, false, false, false, false, false, false, false, false, false, false, false, false, false, false, false, false, false, false, false, false] rfl rfl (one_of HT_.out (by kernel_rfl)) (by decide) (fun K hK => ?_)
            refine goes_ Try.func32 (by kernel_rfl) rfl #[.agg #[.int .i64 t208, .int .u64 t209], .agg #[.int .i64 t210, .int .u64 t211]] (by rfl) rfl rfl (by (try simp only [List.map_toArray, List.map_cons, List.map_nil]); first | done | rfl | (simp only [List.length_drop, List.length_take]; rfl)) ?_
            with_reducible refine (wide_Add.calls t208 t209 t210 t211 t214 t215 _ A7.out).mono ?_
            rintro e w47 ⟨rfl, hb⟩
            refine ⟨_, rfl, ?_⟩
            have n0_ := Aside0.mk (blk_below (g := gb205) (o := .cells #[.int .i64 a0_0, .int .u64 a0_1] 24 (0, 0)) (by (with_reducible repeat (first | refine blk_drewN ?_ _ | refine blk_alloc ?_ _)); exact BK205.out) hb)
            have n1_ := Aside0.mk (blk_below (g := gb206) (o := .cells #[.int .i64 a1_0, .int .u64 a1_1] 24 (0, 0)) (by (with_reducible repeat (first | refine blk_drewN ?_ _ | refine blk_alloc ?_ _)); exact BK206.out) hb)
            have n2_ := Aside0.mk (blk_below (g := gb212) (o := .cells #[.int .i64 t208, .int .u64 t209] 28 (0, 0)) (by (with_reducible repeat (first | refine blk_drewN ?_ _ | refine blk_alloc ?_ _)); exact BK212.out) hb)
            have n3_ := Aside0.mk (blk_below (g := gb213) (o := .cells #[.int .i64 t210, .int .u64 t211] 28 (0, 0)) (by (with_reducible repeat (first | refine blk_drewN ?_ _ | refine blk_alloc ?_ _)); exact BK213.out) hb)
            have n4_ := Aside0.mk (below_step (by repeat (first | (with_reducible first | exact HB.out | apply below_alloc | apply pw_below_drewN | apply below_drew1 | refine below_set ?_ GE205.out | refine below_set ?_ GE206.out | refine below_set ?_ GE212.out | refine below_set ?_ GE213.out) | exact HB.out)) hb)
            clear BK205
            clear BK206
            clear BK212
            clear BK213
            clear HB
            have BK205 := n0_
            have BK206 := n1_
            have BK212 := n2_
            have BK213 := n3_
            have HB := n4_
            clear n0_ n1_ n2_ n3_ n4_
            (try clear hb)
            (try clear hb2)
            (try clear hk)
            (try clear hi)
            refine hK.out _ _ ⟨(blk_cell BK212.out 0).trans rfl, (blk_cell BK212.out 1).trans rfl, (blk_cell BK213.out 0).trans rfl, (blk_cell BK213.out 1).trans rfl, (blk_cell BK205.out 0).trans rfl, (blk_cell BK205.out 1).trans rfl, (blk_cell BK206.out 0).trans rfl, (blk_cell BK206.out 1).trans rfl⟩ (fun hHeld => ?_)
            clear hK K
            refine norm_ (a' := ?_) ?_ ?_
            rotate_left
            · show Act.put _ (some 15) _ = _
              simp only [Act.put, List.setIfInBounds_toArray, List.set_cons_zero, List.set_cons_succ, i64_w, i32_w]
              rfl
            refine one_ (i := 4) (N := some 17) #[true, true, true, true, true, true, false, false, false, false, false, false, false, false, false, false, false, false, false, false, false, false, false, false, false, false, false, false, false, false, false, false, false, false, false, false, false, false, false, false, false, false, false, false, false, false, false, false] rfl rfl (one_of HT_.out (by kernel_rfl)) (by decide) (fun K hK => ?_)
            refine goes_ Try.func25 (by kernel_rfl) rfl #[.agg #[.int .i64 a0_0, .int .u64 a0_1]] (by rfl) rfl rfl (by (try simp only [List.map_toArray, List.map_cons, List.map_nil]); first | done | rfl | (simp only [List.length_drop, List.length_take]; rfl)) ?_
            with_reducible refine (calamuslaw01_Two_ref.calls a0_0 a0_1 t216 t217 t218 t219 t220 t221 t222 t223 _ A8.out).mono ?_
            rintro e w48 ⟨rfl, hb⟩
            refine ⟨_, rfl, ?_⟩
            have n0_ := Aside0.mk (blk_below (g := gb205) (o := .cells #[.int .i64 a0_0, .int .u64 a0_1] 24 (0, 0)) (by (with_reducible repeat (first | refine blk_drewN ?_ _ | refine blk_alloc ?_ _)); exact BK205.out) hb)
            have n1_ := Aside0.mk (blk_below (g := gb206) (o := .cells #[.int .i64 a1_0, .int .u64 a1_1] 24 (0, 0)) (by (with_reducible repeat (first | refine blk_drewN ?_ _ | refine blk_alloc ?_ _)); exact BK206.out) hb)
            have n2_ := Aside0.mk (blk_below (g := gb212) (o := .cells #[.int .i64 t208, .int .u64 t209] 28 (0, 0)) (by (with_reducible repeat (first | refine blk_drewN ?_ _ | refine blk_alloc ?_ _)); exact BK212.out) hb)
            have n3_ := Aside0.mk (blk_below (g := gb213) (o := .cells #[.int .i64 t210, .int .u64 t211] 28 (0, 0)) (by (with_reducible repeat (first | refine blk_drewN ?_ _ | refine blk_alloc ?_ _)); exact BK213.out) hb)
            have n4_ := Aside0.mk (below_step (by repeat (first | (with_reducible first | exact HB.out | apply below_alloc | apply pw_below_drewN | apply below_drew1 | refine below_set ?_ GE205.out | refine below_set ?_ GE206.out | refine below_set ?_ GE212.out | refine below_set ?_ GE213.out) | exact HB.out)) hb)
            clear BK205
            clear BK206
            clear BK212
            clear BK213
            clear HB
            have BK205 := n0_
            have BK206 := n1_
            have BK212 := n2_
            have BK213 := n3_
            have HB := n4_
            clear n0_ n1_ n2_ n3_ n4_
            (try clear hb)
            (try clear hb2)
            (try clear hk)
            (try clear hi)
            refine hK.out _ _ ⟨(blk_cell BK212.out 0).trans rfl, (blk_cell BK212.out 1).trans rfl, (blk_cell BK213.out 0).trans rfl, (blk_cell BK213.out 1).trans rfl, (blk_cell BK205.out 0).trans rfl, (blk_cell BK205.out 1).trans rfl, (blk_cell BK206.out 0).trans rfl, (blk_cell BK206.out 1).trans rfl⟩ (fun hHeld => ?_)
            clear hK K
            refine norm_ (a' := ?_) ?_ ?_
            rotate_left
            · show Act.put _ (some 17) _ = _
              simp only [Act.put, List.setIfInBounds_toArray, List.set_cons_zero, List.set_cons_succ, i64_w, i32_w]
              rfl
            refine one_ (i := 6) (N := some 19) #[true, true, true, true, true, true, true, false, false, false, false, false, false, false, false, false, false, false, false, false, false, false, false, false, false, false, false, false, false, false, false, false, false, false, false, false, false, false, false, false, false, false, false, false, false, false, false, false] rfl rfl (one_of HT_.out (by kernel_rfl)) (by decide) (fun K hK => ?_)
            refine goes_ Try.func25 (by kernel_rfl) rfl #[.agg #[.int .i64 a1_0, .int .u64 a1_1]] (by rfl) rfl rfl (by (try simp only [List.map_toArray, List.map_cons, List.map_nil]); first | done | rfl | (simp only [List.length_drop, List.length_take]; rfl)) ?_
            with_reducible refine (calamuslaw01_Two_ref.calls a1_0 a1_1 t224 t225 t226 t227 t228 t229 t230 t231 _ A9.out).mono ?_
            rintro e w49 ⟨rfl, hb⟩
            refine ⟨_, rfl, ?_⟩
            have n0_ := Aside0.mk (blk_below (g := gb205) (o := .cells #[.int .i64 a0_0, .int .u64 a0_1] 24 (0, 0)) (by (with_reducible repeat (first | refine blk_drewN ?_ _ | refine blk_alloc ?_ _)); exact BK205.out) hb)
            have n1_ := Aside0.mk (blk_below (g := gb206) (o := .cells #[.int .i64 a1_0, .int .u64 a1_1] 24 (0, 0)) (by (with_reducible repeat (first | refine blk_drewN ?_ _ | refine blk_alloc ?_ _)); exact BK206.out) hb)
            have n2_ := Aside0.mk (blk_below (g := gb212) (o := .cells #[.int .i64 t208, .int .u64 t209] 28 (0, 0)) (by (with_reducible repeat (first | refine blk_drewN ?_ _ | refine blk_alloc ?_ _)); exact BK212.out) hb)
            have n3_ := Aside0.mk (blk_below (g := gb213) (o := .cells #[.int .i64 t210, .int .u64 t211] 28 (0, 0)) (by (with_reducible repeat (first | refine blk_drewN ?_ _ | refine blk_alloc ?_ _)); exact BK213.out) hb)
            have n4_ := Aside0.mk (below_step (by repeat (first | (with_reducible first | exact HB.out | apply below_alloc | apply pw_below_drewN | apply below_drew1 | refine below_set ?_ GE205.out | refine below_set ?_ GE206.out | refine below_set ?_ GE212.out | refine below_set ?_ GE213.out) | exact HB.out)) hb)
            clear BK205
            clear BK206
            clear BK212
            clear BK213
            clear HB
            have BK205 := n0_
            have BK206 := n1_
            have BK212 := n2_
            have BK213 := n3_
            have HB := n4_
            clear n0_ n1_ n2_ n3_ n4_
            (try clear hb)
            (try clear hb2)
            (try clear hk)
            (try clear hi)
            refine hK.out _ _ ⟨(blk_cell BK212.out 0).trans rfl, (blk_cell BK212.out 1).trans rfl, (blk_cell BK213.out 0).trans rfl, (blk_cell BK213.out 1).trans rfl, (blk_cell BK205.out 0).trans rfl, (blk_cell BK205.out 1).trans rfl, (blk_cell BK206.out 0).trans rfl, (blk_cell BK206.out 1).trans rfl⟩ (fun hHeld => ?_)
            clear hK K
            refine norm_ (a' := ?_) ?_ ?_
            rotate_left
            · show Act.put _ (some 19) _ = _
              simp only [Act.put, List.setIfInBounds_toArray, List.set_cons_zero, List.set_cons_succ, i64_w, i32_w]
              rfl
            refine one_ (i := 7) (N := some 20) #[true, true, true, true, true, true, true, true, false, false, false, false, false, false, false, false, false, false, false, false, false, false, false, false, false, false, false, false, false, false, false, false, false, false, false, false, false, false, false, false, false, false, false, false, false, false, false, false] rfl rfl (one_of HT_.out (by kernel_rfl)) (by decide) (fun K hK => ?_)
            refine goes_ Try.func34 (by kernel_rfl) rfl #[.agg #[.int .u32 t216, .int .u32 t217, .int .u32 t218, .int .u32 t219, .int .u32 t220, .int .u32 t221, .int .u32 t222, .int .u32 t223], .agg #[.int .u32 t224, .int .u32 t225, .int .u32 t226, .int .u32 t227, .int .u32 t228, .int .u32 t229, .int .u32 t230, .int .u32 t231]] (by rfl) rfl rfl (by (try simp only [List.map_toArray, List.map_cons, List.map_nil]); first | done | rfl | (simp only [List.length_drop, List.length_take]; rfl)) ?_
            with_reducible refine (calamusref01_Add.calls t216 t217 t218 t219 t220 t221 t222 t223 t224 t225 t226 t227 t228 t229 t230 t231 t232 t233 t234 t235 t236 t237 t238 t239 _ A10.out).mono ?_
            rintro e w50 ⟨rfl, hb⟩
            refine ⟨_, rfl, ?_⟩
            have n0_ := Aside0.mk (blk_below (g := gb205) (o := .cells #[.int .i64 a0_0, .int .u64 a0_1] 24 (0, 0)) (by (with_reducible repeat (first | refine blk_drewN ?_ _ | refine blk_alloc ?_ _)); exact BK205.out) hb)
            have n1_ := Aside0.mk (blk_below (g := gb206) (o := .cells #[.int .i64 a1_0, .int .u64 a1_1] 24 (0, 0)) (by (with_reducible repeat (first | refine blk_drewN ?_ _ | refine blk_alloc ?_ _)); exact BK206.out) hb)
            have n2_ := Aside0.mk (blk_below (g := gb212) (o := .cells #[.int .i64 t208, .int .u64 t209] 28 (0, 0)) (by (with_reducible repeat (first | refine blk_drewN ?_ _ | refine blk_alloc ?_ _)); exact BK212.out) hb)
            have n3_ := Aside0.mk (blk_below (g := gb213) (o := .cells #[.int .i64 t210, .int .u64 t211] 28 (0, 0)) (by (with_reducible repeat (first | refine blk_drewN ?_ _ | refine blk_alloc ?_ _)); exact BK213.out) hb)
            have n4_ := Aside0.mk (below_step (by repeat (first | (with_reducible first | exact HB.out | apply below_alloc | apply pw_below_drewN | apply below_drew1 | refine below_set ?_ GE205.out | refine below_set ?_ GE206.out | refine below_set ?_ GE212.out | refine below_set ?_ GE213.out) | exact HB.out)) hb)
            clear BK205
            clear BK206
            clear BK212
            clear BK213
            clear HB
            have BK205 := n0_
            have BK206 := n1_
            have BK212 := n2_
            have BK213 := n3_
            have HB := n4_
            clear n0_ n1_ n2_ n3_ n4_
            (try clear hb)
            (try clear hb2)
            (try clear hk)
            (try clear hi)
            refine hK.out _ _ ⟨(blk_cell BK212.out 0).trans rfl, (blk_cell BK212.out 1).trans rfl, (blk_cell BK213.out 0).trans rfl, (blk_cell BK213.out 1).trans rfl, (blk_cell BK205.out 0).trans rfl, (blk_cell BK205.out 1).trans rfl, (blk_cell BK206.out 0).trans rfl, (blk_cell BK206.out 1).trans rfl⟩ (fun hHeld => ?_)
            clear hK K
            refine norm_ (a' := ?_) ?_ ?_
            rotate_left
            · show Act.put _ (some 20) _ = _
              simp only [Act.put, List.setIfInBounds_toArray, List.set_cons_zero, List.set_cons_succ, i64_w, i32_w]
              rfl
            refine one_ (i := 8) (N := some 21) #[true, true, true, true, true, true, true, true, true, false, false, false, false, false, false, false, false, false, false, false, false, false, false, false, false, false, false, false, false, false, false, false, false, false, false, false, false, false, false, false, false, false, false, false, false, false, false, false] rfl rfl (one_of HT_.out (by kernel_rfl)) (by decide) (fun K hK => ?_)
            refine goes_ Try.func18 (by kernel_rfl) rfl #[.agg #[.int .i64 t214, .int .u64 t215], .agg #[.int .u32 t232, .int .u32 t233, .int .u32 t234, .int .u32 t235, .int .u32 t236, .int .u32 t237, .int .u32 t238, .int .u32 t239]] (by rfl) rfl rfl (by (try simp only [List.map_toArray, List.map_cons, List.map_nil]); first | done | rfl | (simp only [List.length_drop, List.length_take]; rfl)) ?_
            with_reducible refine (calamuslaw01_is.calls t214 t215 t232 t233 t234 t235 t236 t237 t238 t239 true _ A11.out).mono ?_
            rintro e w51 ⟨rfl, hb⟩
            refine ⟨_, rfl, ?_⟩
            have n0_ := Aside0.mk (blk_below (g := gb205) (o := .cells #[.int .i64 a0_0, .int .u64 a0_1] 24 (0, 0)) (by (with_reducible repeat (first | refine blk_drewN ?_ _ | refine blk_alloc ?_ _)); exact BK205.out) hb)
            have n1_ := Aside0.mk (blk_below (g := gb206) (o := .cells #[.int .i64 a1_0, .int .u64 a1_1] 24 (0, 0)) (by (with_reducible repeat (first | refine blk_drewN ?_ _ | refine blk_alloc ?_ _)); exact BK206.out) hb)
            have n2_ := Aside0.mk (blk_below (g := gb212) (o := .cells #[.int .i64 t208, .int .u64 t209] 28 (0, 0)) (by (with_reducible repeat (first | refine blk_drewN ?_ _ | refine blk_alloc ?_ _)); exact BK212.out) hb)
            have n3_ := Aside0.mk (blk_below (g := gb213) (o := .cells #[.int .i64 t210, .int .u64 t211] 28 (0, 0)) (by (with_reducible repeat (first | refine blk_drewN ?_ _ | refine blk_alloc ?_ _)); exact BK213.out) hb)
            have n4_ := Aside0.mk (below_step (by repeat (first | (with_reducible first | exact HB.out | apply below_alloc | apply pw_below_drewN | apply below_drew1 | refine below_set ?_ GE205.out | refine below_set ?_ GE206.out | refine below_set ?_ GE212.out | refine below_set ?_ GE213.out) | exact HB.out)) hb)
            clear BK205
            clear BK206
            clear BK212
            clear BK213
            clear HB
            have BK205 := n0_
            have BK206 := n1_
            have BK212 := n2_
            have BK213 := n3_
            have HB := n4_
            clear n0_ n1_ n2_ n3_ n4_
            (try clear hb)
            (try clear hb2)
            (try clear hk)
            (try clear hi)
            refine hK.out _ _ ⟨(blk_cell BK212.out 0).trans rfl, (blk_cell BK212.out 1).trans rfl, (blk_cell BK213.out 0).trans rfl, (blk_cell BK213.out 1).trans rfl, (blk_cell BK205.out 0).trans rfl, (blk_cell BK205.out 1).trans rfl, (blk_cell BK206.out 0).trans rfl, (blk_cell BK206.out 1).trans rfl⟩ (fun hHeld => ?_)
            clear hK K
            refine norm_ (a' := ?_) ?_ ?_
            rotate_left
            · show Act.put _ (some 21) _ = _
              simp only [Act.put, List.setIfInBounds_toArray, List.set_cons_zero, List.set_cons_succ, i64_w, i32_w]
              rfl
            refine pure_ (i := 9) (N := some 22) (v := ?_) (a' := ?_) #[true, true, true, true, true, true, true, true, true, true, false, false, false, false, false, false, false, false, false, false, false, false, false, false, false, false, false, false, false, false, false, false, false, false, false, false, false, false, false, false, false, false, false, false, false, false, false, false] rfl rfl (any_of HT_.out (by kernel_rfl)) (fun _ _ _ h => h) (Or.inl ⟨by rfl, ?_⟩) ?_ ?_
            rotate_left
            · intro w'
              go_simp
              with_reducible rfl
            rotate_left
            · simp only [Act.put, List.setIfInBounds_toArray, List.set_cons_zero, List.set_cons_succ, i64_w, i32_w]
              rfl
            refine take_ (i := 10) (N := some 23) (v := ?_) (a' := ?_) #[true, true, true, true, true, true, true, true, true, true, true, false, false, false, false, false, false, false, false, false, false, false, false, false, false, false, false, false, false, false, false, false, false, false, false, false, false, false, false, false, false, false, false, false, false, false, false, false] rfl rfl (take_ofW HT_.out HW_.out (by kernel_rfl)) (fun _ _ _ h => h) (Or.inl ⟨by rfl, ?_⟩) hHeld ?_ ?_
            rotate_left
            · rintro w' ⟨s0, s1, s2, s3, s4, s5, s6, s7⟩
              go_simp
              with_reducible rfl
            rotate_left
            · simp only [Act.put, List.setIfInBounds_toArray, List.set_cons_zero, List.set_cons_succ, i64_w, i32_w]
              rfl
            refine take_ (i := 11) (N := some 24) (v := ?_) (a' := ?_) #[true, true, true, true, true, true, true, true, true, true, true, true, false, false, false, false, false, false, false, false, false, false, false, false, false, false, false, false, false, false, false, false, false, false, false, false, false, false, false, false, false, false, false, false, false, false, false, false] rfl rfl (take_ofW HT_.out HW_.out (by kernel_rfl)) (fun _ _ _ h => h) (Or.inl ⟨by rfl, ?_⟩) hHeld ?_ ?_
            rotate_left
            · rintro w' ⟨s0, s1, s2, s3, s4, s5, s6, s7⟩
              go_simp
              with_reducible rfl
            rotate_left
            · simp only [Act.put, List.setIfInBounds_toArray, List.set_cons_zero, List.set_cons_succ, i64_w, i32_w]
              rfl
            refine take_ (i := 13) (N := some 26) (v := ?_) (a' := ?_) #[true, true, true, true, true, true, true, true, true, true, true, true, false, true, false, false, false, false, false, false, false, false, false, false, false, false, false, false, false, false, false, false, false, false, false, false, false, false, false, false, false, false, false, false, false, false, false, false] rfl rfl (take_ofW HT_.out HW_.out (by kernel_rfl)) (fun _ _ _ h => h) (Or.inl ⟨by rfl, ?_⟩) hHeld ?_ ?_
            rotate_left
            · rintro w' ⟨s0, s1, s2, s3, s4, s5, s6, s7⟩
              go_simp
              with_reducible rfl
            rotate_left
            · simp only [Act.put, List.setIfInBounds_toArray, List.set_cons_zero, List.set_cons_succ, i64_w, i32_w]
              rfl
            refine take_ (i := 15) (N := some 28) (v := ?_) (a' := ?_) #[true, true, true, true, true, true, true, true, true, true, true, true, false, true, false, true, false, false, false, false, false, false, false, false, false, false, false, false, false, false, false, false, false, false, false, false, false, false, false, false, false, false, false, false, false, false, false, false] rfl rfl (take_ofW HT_.out HW_.out (by kernel_rfl)) (fun _ _ _ h => h) (Or.inl ⟨by rfl, ?_⟩) hHeld ?_ ?_
            rotate_left
            · rintro w' ⟨s0, s1, s2, s3, s4, s5, s6, s7⟩
              go_simp
              with_reducible rfl
            rotate_left
            · simp only [Act.put, List.setIfInBounds_toArray, List.set_cons_zero, List.set_cons_succ, i64_w, i32_w]
              rfl
            refine one_ (i := 12) (N := some 25) #[true, true, true, true, true, true, true, true, true, true, true, true, true, true, false, true, false, false, false, false, false, false, false, false, false, false, false, false, false, false, false, false, false, false, false, false, false, false, false, false, false, false, false, false, false, false, false, false] rfl rfl (one_of HT_.out (by kernel_rfl)) (by decide) (fun K hK => ?_)
            refine goes_ Try.func31 (by kernel_rfl) rfl #[.agg #[.int .i64 t208, .int .u64 t209], .agg #[.int .i64 t210, .int .u64 t211]] (by rfl) rfl rfl (by (try simp only [List.map_toArray, List.map_cons, List.map_nil]); first | done | rfl | (simp only [List.length_drop, List.length_take]; rfl)) ?_
            with_reducible refine (wide_Sub.calls t208 t209 t210 t211 t241 t242 _ A13.out).mono ?_
            rintro e w52 ⟨rfl, hb⟩
            refine ⟨_, rfl, ?_⟩
            have n0_ := Aside0.mk (blk_below (g := gb205) (o := .cells #[.int .i64 a0_0, .int .u64 a0_1] 24 (0, 0)) (by (with_reducible repeat (first | refine blk_drewN ?_ _ | refine blk_alloc ?_ _)); exact BK205.out) hb)
            have n1_ := Aside0.mk (blk_below (g := gb206) (o := .cells #[.int .i64 a1_0, .int .u64 a1_1] 24 (0, 0)) (by (with_reducible repeat (first | refine blk_drewN ?_ _ | refine blk_alloc ?_ _)); exact BK206.out) hb)
            have n2_ := Aside0.mk (blk_below (g := gb212) (o := .cells #[.int .i64 t208, .int .u64 t209] 28 (0, 0)) (by (with_reducible repeat (first | refine blk_drewN ?_ _ | refine blk_alloc ?_ _)); exact BK212.out) hb)
            have n3_ := Aside0.mk (blk_below (g := gb213) (o := .cells #[.int .i64 t210, .int .u64 t211] 28 (0, 0)) (by (with_reducible repeat (first | refine blk_drewN ?_ _ | refine blk_alloc ?_ _)); exact BK213.out) hb)
            have n4_ := Aside0.mk (below_step (by repeat (first | (with_reducible first | exact HB.out | apply below_alloc | apply pw_below_drewN | apply below_drew1 | refine below_set ?_ GE205.out | refine below_set ?_ GE206.out | refine below_set ?_ GE212.out | refine below_set ?_ GE213.out) | exact HB.out)) hb)
            clear BK205
            clear BK206
            clear BK212
            clear BK213
            clear HB
            have BK205 := n0_
            have BK206 := n1_
            have BK212 := n2_
            have BK213 := n3_
            have HB := n4_
            clear n0_ n1_ n2_ n3_ n4_
            (try clear hb)
            (try clear hb2)
            (try clear hk)
            (try clear hi)
            refine hK.out _ _ ⟨(blk_cell BK212.out 0).trans rfl, (blk_cell BK212.out 1).trans rfl, (blk_cell BK213.out 0).trans rfl, (blk_cell BK213.out 1).trans rfl, (blk_cell BK205.out 0).trans rfl, (blk_cell BK205.out 1).trans rfl, (blk_cell BK206.out 0).trans rfl, (blk_cell BK206.out 1).trans rfl⟩ (fun hHeld => ?_)
            clear hK K
            refine norm_ (a' := ?_) ?_ ?_
            rotate_left
            · show Act.put _ (some 25) _ = _
              simp only [Act.put, List.setIfInBounds_toArray, List.set_cons_zero, List.set_cons_succ, i64_w, i32_w]
              rfl
            refine one_ (i := 14) (N := some 27) #[true, true, true, true, true, true, true, true, true, true, true, true, true, true, true, true, false, false, false, false, false, false, false, false, false, false, false, false, false, false, false, false, false, false, false, false, false, false, false, false, false, false, false, false, false, false, false, false] rfl rfl (one_of HT_.out (by kernel_rfl)) (by decide) (fun K hK => ?_)
            refine goes_ Try.func25 (by kernel_rfl) rfl #[.agg #[.int .i64 a0_0, .int .u64 a0_1]] (by rfl) rfl rfl (by (try simp only [List.map_toArray, List.map_cons, List.map_nil]); first | done | rfl | (simp only [List.length_drop, List.length_take]; rfl)) ?_
            with_reducible refine (calamuslaw01_Two_ref.calls a0_0 a0_1 t243 t244 t245 t246 t247 t248 t249 t250 _ A14.out).mono ?_
            rintro e w53 ⟨rfl, hb⟩
            refine ⟨_, rfl, ?_⟩
            have n0_ := Aside0.mk (blk_below (g := gb205) (o := .cells #[.int .i64 a0_0, .int .u64 a0_1] 24 (0, 0)) (by (with_reducible repeat (first | refine blk_drewN ?_ _ | refine blk_alloc ?_ _)); exact BK205.out) hb)
            have n1_ := Aside0.mk (blk_below (g := gb206) (o := .cells #[.int .i64 a1_0, .int .u64 a1_1] 24 (0, 0)) (by (with_reducible repeat (first | refine blk_drewN ?_ _ | refine blk_alloc ?_ _)); exact BK206.out) hb)
            have n2_ := Aside0.mk (blk_below (g := gb212) (o := .cells #[.int .i64 t208, .int .u64 t209] 28 (0, 0)) (by (with_reducible repeat (first | refine blk_drewN ?_ _ | refine blk_alloc ?_ _)); exact BK212.out) hb)
            have n3_ := Aside0.mk (blk_below (g := gb213) (o := .cells #[.int .i64 t210, .int .u64 t211] 28 (0, 0)) (by (with_reducible repeat (first | refine blk_drewN ?_ _ | refine blk_alloc ?_ _)); exact BK213.out) hb)
            have n4_ := Aside0.mk (below_step (by repeat (first | (with_reducible first | exact HB.out | apply below_alloc | apply pw_below_drewN | apply below_drew1 | refine below_set ?_ GE205.out | refine below_set ?_ GE206.out | refine below_set ?_ GE212.out | refine below_set ?_ GE213.out) | exact HB.out)) hb)
            clear BK205
            clear BK206
            clear BK212
            clear BK213
            clear HB
            have BK205 := n0_
            have BK206 := n1_
            have BK212 := n2_
            have BK213 := n3_
            have HB := n4_
            clear n0_ n1_ n2_ n3_ n4_
            (try clear hb)
            (try clear hb2)
            (try clear hk)
            (try clear hi)
            refine hK.out _ _ ⟨(blk_cell BK212.out 0).trans rfl, (blk_cell BK212.out 1).trans rfl, (blk_cell BK213.out 0).trans rfl, (blk_cell BK213.out 1).trans rfl, (blk_cell BK205.out 0).trans rfl, (blk_cell BK205.out 1).trans rfl, (blk_cell BK206.out 0).trans rfl, (blk_cell BK206.out 1).trans rfl⟩ (fun hHeld => ?_)
            clear hK K
            refine norm_ (a' := ?_) ?_ ?_
            rotate_left
            · show Act.put _ (some 27) _ = _
              simp only [Act.put, List.setIfInBounds_toArray, List.set_cons_zero, List.set_cons_succ, i64_w, i32_w]
              rfl
            refine one_ (i := 16) (N := some 29) #[true, true, true, true, true, true, true, true, true, true, true, true, true, true, true, true, true, false, false, false, false, false, false, false, false, false, false, false, false, false, false, false, false, false, false, false, false, false, false, false, false, false, false, false, false, false, false, false] rfl rfl (one_of HT_.out (by kernel_rfl)) (by decide) (fun K hK => ?_)
            refine goes_ Try.func25 (by kernel_rfl) rfl #[.agg #[.int .i64 a1_0, .int .u64 a1_1]] (by rfl) rfl rfl (by (try simp only [List.map_toArray, List.map_cons, List.map_nil]); first | done | rfl | (simp only [List.length_drop, List.length_take]; rfl)) ?_
            with_reducible refine (calamuslaw01_Two_ref.calls a1_0 a1_1 t251 t252 t253 t254 t255 t256 t257 t258 _ A15.out).mono ?_
            rintro e w54 ⟨rfl, hb⟩
            refine ⟨_, rfl, ?_⟩
            have n0_ := Aside0.mk (blk_below (g := gb205) (o := .cells #[.int .i64 a0_0, .int .u64 a0_1] 24 (0, 0)) (by (with_reducible repeat (first | refine blk_drewN ?_ _ | refine blk_alloc ?_ _)); exact BK205.out) hb)
            have n1_ := Aside0.mk (blk_below (g := gb206) (o := .cells #[.int .i64 a1_0, .int .u64 a1_1] 24 (0, 0)) (by (with_reducible repeat (first | refine blk_drewN ?_ _ | refine blk_alloc ?_ _)); exact BK206.out) hb)
            have n2_ := Aside0.mk (blk_below (g := gb212) (o := .cells #[.int .i64 t208, .int .u64 t209] 28 (0, 0)) (by (with_reducible repeat (first | refine blk_drewN ?_ _ | refine blk_alloc ?_ _)); exact BK212.out) hb)
            have n3_ := Aside0.mk (blk_below (g := gb213) (o := .cells #[.int .i64 t210, .int .u64 t211] 28 (0, 0)) (by (with_reducible repeat (first | refine blk_drewN ?_ _ | refine blk_alloc ?_ _)); exact BK213.out) hb)
            have n4_ := Aside0.mk (below_step (by repeat (first | (with_reducible first | exact HB.out | apply below_alloc | apply pw_below_drewN | apply below_drew1 | refine below_set ?_ GE205.out | refine below_set ?_ GE206.out | refine below_set ?_ GE212.out | refine below_set ?_ GE213.out) | exact HB.out)) hb)
            clear BK205
            clear BK206
            clear BK212
            clear BK213
            clear HB
            have BK205 := n0_
            have BK206 := n1_
            have BK212 := n2_
            have BK213 := n3_
            have HB := n4_
            clear n0_ n1_ n2_ n3_ n4_
            (try clear hb)
            (try clear hb2)
            (try clear hk)
            (try clear hi)
            refine hK.out _ _ ⟨(blk_cell BK212.out 0).trans rfl, (blk_cell BK212.out 1).trans rfl, (blk_cell BK213.out 0).trans rfl, (blk_cell BK213.out 1).trans rfl, (blk_cell BK205.out 0).trans rfl, (blk_cell BK205.out 1).trans rfl, (blk_cell BK206.out 0).trans rfl, (blk_cell BK206.out 1).trans rfl⟩ (fun hHeld => ?_)
            clear hK K
            refine norm_ (a' := ?_) ?_ ?_
            rotate_left
            · show Act.put _ (some 29) _ = _
              simp only [Act.put, List.setIfInBounds_toArray, List.set_cons_zero, List.set_cons_succ, i64_w, i32_w]
              rfl
            refine one_ (i := 17) (N := some 30) #[true, true, true, true, true, true, true, true, true, true, true, true, true, true, true, true, true, true, false, false, false, false, false, false, false, false, false, false, false, false, false, false, false, false, false, false, false, false, false, false, false, false, false, false, false, false, false, false] rfl rfl (one_of HT_.out (by kernel_rfl)) (by decide) (fun K hK => ?_)
            refine goes_ Try.func35 (by kernel_rfl) rfl #[.agg #[.int .u32 t243, .int .u32 t244, .int .u32 t245, .int .u32 t246, .int .u32 t247, .int .u32 t248, .int .u32 t249, .int .u32 t250], .agg #[.int .u32 t251, .int .u32 t252, .int .u32 t253, .int .u32 t254, .int .u32 t255, .int .u32 t256, .int .u32 t257, .int .u32 t258]] (by rfl) rfl rfl (by (try simp only [List.map_toArray, List.map_cons, List.map_nil]); first | done | rfl | (simp only [List.length_drop, List.length_take]; rfl)) ?_
            with_reducible refine (calamusref01_Sub.calls t243 t244 t245 t246 t247 t248 t249 t250 t251 t252 t253 t254 t255 t256 t257 t258 t259 t260 t261 t262 t263 t264 t265 t266 _ A16.out).mono ?_
            rintro e w55 ⟨rfl, hb⟩
            refine ⟨_, rfl, ?_⟩
            have n0_ := Aside0.mk (blk_below (g := gb205) (o := .cells #[.int .i64 a0_0, .int .u64 a0_1] 24 (0, 0)) (by (with_reducible repeat (first | refine blk_drewN ?_ _ | refine blk_alloc ?_ _)); exact BK205.out) hb)
            have n1_ := Aside0.mk (blk_below (g := gb206) (o := .cells #[.int .i64 a1_0, .int .u64 a1_1] 24 (0, 0)) (by (with_reducible repeat (first | refine blk_drewN ?_ _ | refine blk_alloc ?_ _)); exact BK206.out) hb)
            have n2_ := Aside0.mk (blk_below (g := gb212) (o := .cells #[.int .i64 t208, .int .u64 t209] 28 (0, 0)) (by (with_reducible repeat (first | refine blk_drewN ?_ _ | refine blk_alloc ?_ _)); exact BK212.out) hb)
            have n3_ := Aside0.mk (blk_below (g := gb213) (o := .cells #[.int .i64 t210, .int .u64 t211] 28 (0, 0)) (by (with_reducible repeat (first | refine blk_drewN ?_ _ | refine blk_alloc ?_ _)); exact BK213.out) hb)
            have n4_ := Aside0.mk (below_step (by repeat (first | (with_reducible first | exact HB.out | apply below_alloc | apply pw_below_drewN | apply below_drew1 | refine below_set ?_ GE205.out | refine below_set ?_ GE206.out | refine below_set ?_ GE212.out | refine below_set ?_ GE213.out) | exact HB.out)) hb)
            clear BK205
            clear BK206
            clear BK212
            clear BK213
            clear HB
            have BK205 := n0_
            have BK206 := n1_
            have BK212 := n2_
            have BK213 := n3_
            have HB := n4_
            clear n0_ n1_ n2_ n3_ n4_
            (try clear hb)
            (try clear hb2)
            (try clear hk)
            (try clear hi)
            refine hK.out _ _ ⟨(blk_cell BK212.out 0).trans rfl, (blk_cell BK212.out 1).trans rfl, (blk_cell BK213.out 0).trans rfl, (blk_cell BK213.out 1).trans rfl, (blk_cell BK205.out 0).trans rfl, (blk_cell BK205.out 1).trans rfl, (blk_cell BK206.out 0).trans rfl, (blk_cell BK206.out 1).trans rfl⟩ (fun hHeld => ?_)
            clear hK K
            refine norm_ (a' := ?_) ?_ ?_
            rotate_left
            · show Act.put _ (some 30) _ = _
              simp only [Act.put, List.setIfInBounds_toArray, List.set_cons_zero, List.set_cons_succ, i64_w, i32_w]
              rfl
            refine one_ (i := 18) (N := some 31) #[true, true, true, true, true, true, true, true, true, true, true, true, true, true, true, true, true, true, true, false, false, false, false, false, false, false, false, false, false, false, false, false, false, false, false, false, false, false, false, false, false, false, false, false, false, false, false, false] rfl rfl (one_of HT_.out (by kernel_rfl)) (by decide) (fun K hK => ?_)
            refine goes_ Try.func18 (by kernel_rfl) rfl #[.agg #[.int .i64 t241, .int .u64 t242], .agg #[.int .u32 t259, .int .u32 t260, .int .u32 t261, .int .u32 t262, .int .u32 t263, .int .u32 t264, .int .u32 t265, .int .u32 t266]] (by rfl) rfl rfl (by (try simp only [List.map_toArray, List.map_cons, List.map_nil]); first | done | rfl | (simp only [List.length_drop, List.length_take]; rfl)) ?_
            with_reducible refine (calamuslaw01_is.calls t241 t242 t259 t260 t261 t262 t263 t264 t265 t266 true _ A17.out).mono ?_
            rintro e w56 ⟨rfl, hb⟩
            refine ⟨_, rfl, ?_⟩
            have n0_ := Aside0.mk (blk_below (g := gb205) (o := .cells #[.int .i64 a0_0, .int .u64 a0_1] 24 (0, 0)) (by (with_reducible repeat (first | refine blk_drewN ?_ _ | refine blk_alloc ?_ _)); exact BK205.out) hb)
            have n1_ := Aside0.mk (blk_below (g := gb206) (o := .cells #[.int .i64 a1_0, .int .u64 a1_1] 24 (0, 0)) (by (with_reducible repeat (first | refine blk_drewN ?_ _ | refine blk_alloc ?_ _)); exact BK206.out) hb)
            have n2_ := Aside0.mk (blk_below (g := gb212) (o := .cells #[.int .i64 t208, .int .u64 t209] 28 (0, 0)) (by (with_reducible repeat (first | refine blk_drewN ?_ _ | refine blk_alloc ?_ _)); exact BK212.out) hb)
            have n3_ := Aside0.mk (blk_below (g := gb213) (o := .cells #[.int .i64 t210, .int .u64 t211] 28 (0, 0)) (by (with_reducible repeat (first | refine blk_drewN ?_ _ | refine blk_alloc ?_ _)); exact BK213.out) hb)
            have n4_ := Aside0.mk (below_step (by repeat (first | (with_reducible first | exact HB.out | apply below_alloc | apply pw_below_drewN | apply below_drew1 | refine below_set ?_ GE205.out | refine below_set ?_ GE206.out | refine below_set ?_ GE212.out | refine below_set ?_ GE213.out) | exact HB.out)) hb)
            clear BK205
            clear BK206
            clear BK212
            clear BK213
            clear HB
            have BK205 := n0_
            have BK206 := n1_
            have BK212 := n2_
            have BK213 := n3_
            have HB := n4_
            clear n0_ n1_ n2_ n3_ n4_
            (try clear hb)
            (try clear hb2)
            (try clear hk)
            (try clear hi)
            refine hK.out _ _ ⟨(blk_cell BK212.out 0).trans rfl, (blk_cell BK212.out 1).trans rfl, (blk_cell BK213.out 0).trans rfl, (blk_cell BK213.out 1).trans rfl, (blk_cell BK205.out 0).trans rfl, (blk_cell BK205.out 1).trans rfl, (blk_cell BK206.out 0).trans rfl, (blk_cell BK206.out 1).trans rfl⟩ (fun hHeld => ?_)
            clear hK K
            refine norm_ (a' := ?_) ?_ ?_
            rotate_left
            · show Act.put _ (some 31) _ = _
              simp only [Act.put, List.setIfInBounds_toArray, List.set_cons_zero, List.set_cons_succ, i64_w, i32_w]
              rfl
            refine pure_ (i := 19) (N := some 32) (v := ?_) (a' := ?_) #[true, true, true, true, true, true, true, true, true, true, true, true, true, true, true, true, true, true, true, true, false, false, false, false, false, false, false, false, false, false, false, false, false, false, false, false, false, false, false, false, false, false, false, false, false, false, false, false] rfl rfl (any_of HT_.out (by kernel_rfl)) (fun _ _ _ h => h) (Or.inl ⟨by rfl, ?_⟩) ?_ ?_
            rotate_left
            · intro w'
              go_simp
              with_reducible rfl
            rotate_left
            · simp only [Act.put, List.setIfInBounds_toArray, List.set_cons_zero, List.set_cons_succ, i64_w, i32_w]
              rfl
            refine pure_ (i := 20) (N := some 33) (v := ?_) (a' := ?_) #[true, true, true, true, true, true, true, true, true, true, true, true, true, true, true, true, true, true, true, true, true, false, false, false, false, false, false, false, false, false, false, false, false, false, false, false, false, false, false, false, false, false, false, false, false, false, false, false] rfl rfl (any_of HT_.out (by kernel_rfl)) (fun _ _ _ h => h) (Or.inl ⟨by rfl, ?_⟩) ?_ ?_
            rotate_left
            · intro w'
              go_simp
              with_reducible rfl
            rotate_left
            · simp only [Act.put, List.setIfInBounds_toArray, List.set_cons_zero, List.set_cons_succ, i64_w, i32_w]
              rfl
            refine take_ (i := 21) (N := some 34) (v := ?_) (a' := ?_) #[true, true, true, true, true, true, true, true, true, true, true, true, true, true, true, true, true, true, true, true, true, true, false, false, false, false, false, false, false, false, false, false, false, false, false, false, false, false, false, false, false, false, false, false, false, false, false, false] rfl rfl (take_ofW HT_.out HW_.out (by kernel_rfl)) (fun _ _ _ h => h) (Or.inl ⟨by rfl, ?_⟩) hHeld ?_ ?_
            rotate_left
            · rintro w' ⟨s0, s1, s2, s3, s4, s5, s6, s7⟩
              go_simp
              with_reducible rfl
            rotate_left
            · simp only [Act.put, List.setIfInBounds_toArray, List.set_cons_zero, List.set_cons_succ, i64_w, i32_w]
              rfl
            refine take_ (i := 23) (N := some 36) (v := ?_) (a' := ?_) #[true, true, true, true, true, true, true, true, true, true, true, true, true, true, true, true, true, true, true, true, true, true, false, true, false, false, false, false, false, false, false, false, false, false, false, false, false, false, false, false, false, false, false, false, false, false, false, false] rfl rfl (take_ofW HT_.out HW_.out (by kernel_rfl)) (fun _ _ _ h => h) (Or.inl ⟨by rfl, ?_⟩) hHeld ?_ ?_
            rotate_left
            · rintro w' ⟨s0, s1, s2, s3, s4, s5, s6, s7⟩
              go_simp
              with_reducible rfl
            rotate_left
            · simp only [Act.put, List.setIfInBounds_toArray, List.set_cons_zero, List.set_cons_succ, i64_w, i32_w]
              rfl
            refine one_ (i := 22) (N := some 35) #[true, true, true, true, true, true, true, true, true, true, true, true, true, true, true, true, true, true, true, true, true, true, true, true, false, false, false, false, false, false, false, false, false, false, false, false, false, false, false, false, false, false, false, false, false, false, false, false] rfl rfl (one_of HT_.out (by kernel_rfl)) (by decide) (fun K hK => ?_)
            refine goes_ Try.func33 (by kernel_rfl) rfl #[.agg #[.int .i64 t208, .int .u64 t209]] (by rfl) rfl rfl (by (try simp only [List.map_toArray, List.map_cons, List.map_nil]); first | done | rfl | (simp only [List.length_drop, List.length_take]; rfl)) ?_
            with_reducible refine (wide_Neg.calls t208 t209 t268 t269 _ A19.out).mono ?_
            rintro e w57 ⟨rfl, hb⟩
            refine ⟨_, rfl, ?_⟩
            have n0_ := Aside0.mk (blk_below (g := gb205) (o := .cells #[.int .i64 a0_0, .int .u64 a0_1] 24 (0, 0)) (by (with_reducible repeat (first | refine blk_drewN ?_ _ | refine blk_alloc ?_ _)); exact BK205.out) hb)
            have n1_ := Aside0.mk (blk_below (g := gb206) (o := .cells #[.int .i64 a1_0, .int .u64 a1_1] 24 (0, 0)) (by (with_reducible repeat (first | refine blk_drewN ?_ _ | refine blk_alloc ?_ _)); exact BK206.out) hb)
            have n2_ := Aside0.mk (blk_below (g := gb212) (o := .cells #[.int .i64 t208, .int .u64 t209] 28 (0, 0)) (by (with_reducible repeat (first | refine blk_drewN ?_ _ | refine blk_alloc ?_ _)); exact BK212.out) hb)
            have n3_ := Aside0.mk (blk_below (g := gb213) (o := .cells #[.int .i64 t210, .int .u64 t211] 28 (0, 0)) (by (with_reducible repeat (first | refine blk_drewN ?_ _ | refine blk_alloc ?_ _)); exact BK213.out) hb)
            have n4_ := Aside0.mk (below_step (by repeat (first | (with_reducible first | exact HB.out | apply below_alloc | apply pw_below_drewN | apply below_drew1 | refine below_set ?_ GE205.out | refine below_set ?_ GE206.out | refine below_set ?_ GE212.out | refine below_set ?_ GE213.out) | exact HB.out)) hb)
            clear BK205
            clear BK206
            clear BK212
            clear BK213
            clear HB
            have BK205 := n0_
            have BK206 := n1_
            have BK212 := n2_
            have BK213 := n3_
            have HB := n4_
            clear n0_ n1_ n2_ n3_ n4_
            (try clear hb)
            (try clear hb2)
            (try clear hk)
            (try clear hi)
            refine hK.out _ _ ⟨(blk_cell BK212.out 0).trans rfl, (blk_cell BK212.out 1).trans rfl, (blk_cell BK213.out 0).trans rfl, (blk_cell BK213.out 1).trans rfl, (blk_cell BK205.out 0).trans rfl, (blk_cell BK205.out 1).trans rfl, (blk_cell BK206.out 0).trans rfl, (blk_cell BK206.out 1).trans rfl⟩ (fun hHeld => ?_)
            clear hK K
            refine norm_ (a' := ?_) ?_ ?_
            rotate_left
            · show Act.put _ (some 35) _ = _
              simp only [Act.put, List.setIfInBounds_toArray, List.set_cons_zero, List.set_cons_succ, i64_w, i32_w]
              rfl
            refine one_ (i := 24) (N := some 37) #[true, true, true, true, true, true, true, true, true, true, true, true, true, true, true, true, true, true, true, true, true, true, true, true, true, false, false, false, false, false, false, false, false, false, false, false, false, false, false, false, false, false, false, false, false, false, false, false] rfl rfl (one_of HT_.out (by kernel_rfl)) (by decide) (fun K hK => ?_)
            refine goes_ Try.func25 (by kernel_rfl) rfl #[.agg #[.int .i64 a0_0, .int .u64 a0_1]] (by rfl) rfl rfl (by (try simp only [List.map_toArray, List.map_cons, List.map_nil]); first | done | rfl | (simp only [List.length_drop, List.length_take]; rfl)) ?_
            with_reducible refine (calamuslaw01_Two_ref.calls a0_0 a0_1 t270 t271 t272 t273 t274 t275 t276 t277 _ A20.out).mono ?_
            rintro e w58 ⟨rfl, hb⟩
            refine ⟨_, rfl, ?_⟩
            have n0_ := Aside0.mk (blk_below (g := gb205) (o := .cells #[.int .i64 a0_0, .int .u64 a0_1] 24 (0, 0)) (by (with_reducible repeat (first | refine blk_drewN ?_ _ | refine blk_alloc ?_ _)); exact BK205.out) hb)
            have n1_ := Aside0.mk (blk_below (g := gb206) (o := .cells #[.int .i64 a1_0, .int .u64 a1_1] 24 (0, 0)) (by (with_reducible repeat (first | refine blk_drewN ?_ _ | refine blk_alloc ?_ _)); exact BK206.out) hb)
            have n2_ := Aside0.mk (blk_below (g := gb212) (o := .cells #[.int .i64 t208, .int .u64 t209] 28 (0, 0)) (by (with_reducible repeat (first | refine blk_drewN ?_ _ | refine blk_alloc ?_ _)); exact BK212.out) hb)
            have n3_ := Aside0.mk (blk_below (g := gb213) (o := .cells #[.int .i64 t210, .int .u64 t211] 28 (0, 0)) (by (with_reducible repeat (first | refine blk_drewN ?_ _ | refine blk_alloc ?_ _)); exact BK213.out) hb)
            have n4_ := Aside0.mk (below_step (by repeat (first | (with_reducible first | exact HB.out | apply below_alloc | apply pw_below_drewN | apply below_drew1 | refine below_set ?_ GE205.out | refine below_set ?_ GE206.out | refine below_set ?_ GE212.out | refine below_set ?_ GE213.out) | exact HB.out)) hb)
            clear BK205
            clear BK206
            clear BK212
            clear BK213
            clear HB
            have BK205 := n0_
            have BK206 := n1_
            have BK212 := n2_
            have BK213 := n3_
            have HB := n4_
            clear n0_ n1_ n2_ n3_ n4_
            (try clear hb)
            (try clear hb2)
            (try clear hk)
            (try clear hi)
            refine hK.out _ _ ⟨(blk_cell BK212.out 0).trans rfl, (blk_cell BK212.out 1).trans rfl, (blk_cell BK213.out 0).trans rfl, (blk_cell BK213.out 1).trans rfl, (blk_cell BK205.out 0).trans rfl, (blk_cell BK205.out 1).trans rfl, (blk_cell BK206.out 0).trans rfl, (blk_cell BK206.out 1).trans rfl⟩ (fun hHeld => ?_)
            clear hK K
            refine norm_ (a' := ?_) ?_ ?_
            rotate_left
            · show Act.put _ (some 37) _ = _
              simp only [Act.put, List.setIfInBounds_toArray, List.set_cons_zero, List.set_cons_succ, i64_w, i32_w]
              rfl
            refine one_ (i := 25) (N := some 38) #[true, true, true, true, true, true, true, true, true, true, true, true, true, true, true, true, true, true, true, true, true, true, true, true, true, true, false, false, false, false, false, false, false, false, false, false, false, false, false, false, false, false, false, false, false, false, false, false] rfl rfl (one_of HT_.out (by kernel_rfl)) (by decide) (fun K hK => ?_)
            refine goes_ Try.func36 (by kernel_rfl) rfl #[.agg #[.int .u32 t270, .int .u32 t271, .int .u32 t272, .int .u32 t273, .int .u32 t274, .int .u32 t275, .int .u32 t276, .int .u32 t277]] (by rfl) rfl rfl (by (try simp only [List.map_toArray, List.map_cons, List.map_nil]); first | done | rfl | (simp only [List.length_drop, List.length_take]; rfl)) ?_
            with_reducible refine (calamusref01_Neg.calls t270 t271 t272 t273 t274 t275 t276 t277 t278 t279 t280 t281 t282 t283 t284 t285 _ A21.out).mono ?_
            rintro e w59 ⟨rfl, hb⟩
            refine ⟨_, rfl, ?_⟩
            have n0_ := Aside0.mk (blk_below (g := gb205) (o := .cells #[.int .i64 a0_0, .int .u64 a0_1] 24 (0, 0)) (by (with_reducible repeat (first | refine blk_drewN ?_ _ | refine blk_alloc ?_ _)); exact BK205.out) hb)
            have n1_ := Aside0.mk (blk_below (g := gb206) (o := .cells #[.int .i64 a1_0, .int .u64 a1_1] 24 (0, 0)) (by (with_reducible repeat (first | refine blk_drewN ?_ _ | refine blk_alloc ?_ _)); exact BK206.out) hb)
            have n2_ := Aside0.mk (blk_below (g := gb212) (o := .cells #[.int .i64 t208, .int .u64 t209] 28 (0, 0)) (by (with_reducible repeat (first | refine blk_drewN ?_ _ | refine blk_alloc ?_ _)); exact BK212.out) hb)
            have n3_ := Aside0.mk (blk_below (g := gb213) (o := .cells #[.int .i64 t210, .int .u64 t211] 28 (0, 0)) (by (with_reducible repeat (first | refine blk_drewN ?_ _ | refine blk_alloc ?_ _)); exact BK213.out) hb)
            have n4_ := Aside0.mk (below_step (by repeat (first | (with_reducible first | exact HB.out | apply below_alloc | apply pw_below_drewN | apply below_drew1 | refine below_set ?_ GE205.out | refine below_set ?_ GE206.out | refine below_set ?_ GE212.out | refine below_set ?_ GE213.out) | exact HB.out)) hb)
            clear BK205
            clear BK206
            clear BK212
            clear BK213
            clear HB
            have BK205 := n0_
            have BK206 := n1_
            have BK212 := n2_
            have BK213 := n3_
            have HB := n4_
            clear n0_ n1_ n2_ n3_ n4_
            (try clear hb)
            (try clear hb2)
            (try clear hk)
            (try clear hi)
            refine hK.out _ _ ⟨(blk_cell BK212.out 0).trans rfl, (blk_cell BK212.out 1).trans rfl, (blk_cell BK213.out 0).trans rfl, (blk_cell BK213.out 1).trans rfl, (blk_cell BK205.out 0).trans rfl, (blk_cell BK205.out 1).trans rfl, (blk_cell BK206.out 0).trans rfl, (blk_cell BK206.out 1).trans rfl⟩ (fun hHeld => ?_)
            clear hK K
            refine norm_ (a' := ?_) ?_ ?_
            rotate_left
            · show Act.put _ (some 38) _ = _
              simp only [Act.put, List.setIfInBounds_toArray, List.set_cons_zero, List.set_cons_succ, i64_w, i32_w]
              rfl
            refine one_ (i := 26) (N := some 39) #[true, true, true, true, true, true, true, true, true, true, true, true, true, true, true, true, true, true, true, true, true, true, true, true, true, true, true, false, false, false, false, false, false, false, false, false, false, false, false, false, false, false, false, false, false, false, false, false] rfl rfl (one_of HT_.out (by kernel_rfl)) (by decide) (fun K hK => ?_)
            refine goes_ Try.func18 (by kernel_rfl) rfl #[.agg #[.int .i64 t268, .int .u64 t269], .agg #[.int .u32 t278, .int .u32 t279, .int .u32 t280, .int .u32 t281, .int .u32 t282, .int .u32 t283, .int .u32 t284, .int .u32 t285]] (by rfl) rfl rfl (by (try simp only [List.map_toArray, List.map_cons, List.map_nil]); first | done | rfl | (simp only [List.length_drop, List.length_take]; rfl)) ?_
            with_reducible refine (calamuslaw01_is.calls t268 t269 t278 t279 t280 t281 t282 t283 t284 t285 true _ A22.out).mono ?_
            rintro e w60 ⟨rfl, hb⟩
            refine ⟨_, rfl, ?_⟩
            have n0_ := Aside0.mk (blk_below (g := gb205) (o := .cells #[.int .i64 a0_0, .int .u64 a0_1] 24 (0, 0)) (by (with_reducible repeat (first | refine blk_drewN ?_ _ | refine blk_alloc ?_ _)); exact BK205.out) hb)
            have n1_ := Aside0.mk (blk_below (g := gb206) (o := .cells #[.int .i64 a1_0, .int .u64 a1_1] 24 (0, 0)) (by (with_reducible repeat (first | refine blk_drewN ?_ _ | refine blk_alloc ?_ _)); exact BK206.out) hb)
            have n2_ := Aside0.mk (blk_below (g := gb212) (o := .cells #[.int .i64 t208, .int .u64 t209] 28 (0, 0)) (by (with_reducible repeat (first | refine blk_drewN ?_ _ | refine blk_alloc ?_ _)); exact BK212.out) hb)
            have n3_ := Aside0.mk (blk_below (g := gb213) (o := .cells #[.int .i64 t210, .int .u64 t211] 28 (0, 0)) (by (with_reducible repeat (first | refine blk_drewN ?_ _ | refine blk_alloc ?_ _)); exact BK213.out) hb)
            have n4_ := Aside0.mk (below_step (by repeat (first | (with_reducible first | exact HB.out | apply below_alloc | apply pw_below_drewN | apply below_drew1 | refine below_set ?_ GE205.out | refine below_set ?_ GE206.out | refine below_set ?_ GE212.out | refine below_set ?_ GE213.out) | exact HB.out)) hb)
            clear BK205
            clear BK206
            clear BK212
            clear BK213
            clear HB
            have BK205 := n0_
            have BK206 := n1_
            have BK212 := n2_
            have BK213 := n3_
            have HB := n4_
            clear n0_ n1_ n2_ n3_ n4_
            (try clear hb)
            (try clear hb2)
            (try clear hk)
            (try clear hi)
            refine hK.out _ _ ⟨(blk_cell BK212.out 0).trans rfl, (blk_cell BK212.out 1).trans rfl, (blk_cell BK213.out 0).trans rfl, (blk_cell BK213.out 1).trans rfl, (blk_cell BK205.out 0).trans rfl, (blk_cell BK205.out 1).trans rfl, (blk_cell BK206.out 0).trans rfl, (blk_cell BK206.out 1).trans rfl⟩ (fun hHeld => ?_)
            clear hK K
            refine norm_ (a' := ?_) ?_ ?_
            rotate_left
            · show Act.put _ (some 39) _ = _
              simp only [Act.put, List.setIfInBounds_toArray, List.set_cons_zero, List.set_cons_succ, i64_w, i32_w]
              rfl
            refine pure_ (i := 27) (N := some 40) (v := ?_) (a' := ?_) #[true, true, true, true, true, true, true, true, true, true, true, true, true, true, true, true, true, true, true, true, true, true, true, true, true, true, true, true, false, false, false, false, false, false, false, false, false, false, false, false, false, false, false, false, false, false, false, false] rfl rfl (any_of HT_.out (by kernel_rfl)) (fun _ _ _ h => h) (Or.inl ⟨by rfl, ?_⟩) ?_ ?_
            rotate_left
            · intro w'
              go_simp
              with_reducible rfl
            rotate_left
            · simp only [Act.put, List.setIfInBounds_toArray, List.set_cons_zero, List.set_cons_succ, i64_w, i32_w]
              rfl
            refine pure_ (i := 28) (N := some 41) (v := ?_) (a' := ?_) #[true, true, true, true, true, true, true, true, true, true, true, true, true, true, true, true, true, true, true, true, true, true, true, true, true, true, true, true, true, false, false, false, false, false, false, false, false, false, false, false, false, false, false, false, false, false, false, false] rfl rfl (any_of HT_.out (by kernel_rfl)) (fun _ _ _ h => h) (Or.inl ⟨by rfl, ?_⟩) ?_ ?_
            rotate_left
            · intro w'
              go_simp
              with_reducible rfl
            rotate_left
            · simp only [Act.put, List.setIfInBounds_toArray, List.set_cons_zero, List.set_cons_succ, i64_w, i32_w]
              rfl
            refine take_ (i := 29) (N := some 42) (v := ?_) (a' := ?_) #[true, true, true, true, true, true, true, true, true, true, true, true, true, true, true, true, true, true, true, true, true, true, true, true, true, true, true, true, true, true, false, false, false, false, false, false, false, false, false, false, false, false, false, false, false, false, false, false] rfl rfl (take_ofW HT_.out HW_.out (by kernel_rfl)) (fun _ _ _ h => h) (Or.inl ⟨by rfl, ?_⟩) hHeld ?_ ?_
            rotate_left
            · rintro w' ⟨s0, s1, s2, s3, s4, s5, s6, s7⟩
              go_simp
              with_reducible rfl
            rotate_left
            · simp only [Act.put, List.setIfInBounds_toArray, List.set_cons_zero, List.set_cons_succ, i64_w, i32_w]
              rfl
            refine take_ (i := 30) (N := some 43) (v := ?_) (a' := ?_) #[true, true, true, true, true, true, true, true, true, true, true, true, true, true, true, true, true, true, true, true, true, true, true, true, true, true, true, true, true, true, true, false, false, false, false, false, false, false, false, false, false, false, false, false, false, false, false, false] rfl rfl (take_ofW HT_.out HW_.out (by kernel_rfl)) (fun _ _ _ h => h) (Or.inl ⟨by rfl, ?_⟩) hHeld ?_ ?_
            rotate_left
            · rintro w' ⟨s0, s1, s2, s3, s4, s5, s6, s7⟩
              go_simp
              with_reducible rfl
            rotate_left
            · simp only [Act.put, List.setIfInBounds_toArray, List.set_cons_zero, List.set_cons_succ, i64_w, i32_w]
              rfl
            refine take_ (i := 32) (N := some 45) (v := ?_) (a' := ?_) #[true, true, true, true, true, true, true, true, true, true, true, true, true, true, true, true, true, true, true, true, true, true, true, true, true, true, true, true, true, true, true, false, true, false, false, false, false, false, false, false, false, false, false, false, false, false, false, false] rfl rfl (take_ofW HT_.out HW_.out (by kernel_rfl)) (fun _ _ _ h => h) (Or.inl ⟨by rfl, ?_⟩) hHeld ?_ ?_
            rotate_left
            · rintro w' ⟨s0, s1, s2, s3, s4, s5, s6, s7⟩
              go_simp
              with_reducible rfl
            rotate_left
            · simp only [Act.put, List.setIfInBounds_toArray, List.set_cons_zero, List.set_cons_succ, i64_w, i32_w]
              rfl
            refine take_ (i := 34) (N := some 47) (v := ?_) (a' := ?_) #[true, true, true, true, true, true, true, true, true, true, true, true, true, true, true, true, true, true, true, true, true, true, true, true, true, true, true, true, true, true, true, false, true, false, true, false, false, false, false, false, false, false, false, false, false, false, false, false] rfl rfl (take_ofW HT_.out HW_.out (by kernel_rfl)) (fun _ _ _ h => h) (Or.inl ⟨by rfl, ?_⟩) hHeld ?_ ?_
            rotate_left
            · rintro w' ⟨s0, s1, s2, s3, s4, s5, s6, s7⟩
              go_simp
              with_reducible rfl
            rotate_left
            · simp only [Act.put, List.setIfInBounds_toArray, List.set_cons_zero, List.set_cons_succ, i64_w, i32_w]
              rfl
            refine one_ (i := 31) (N := some 44) #[true, true, true, true, true, true, true, true, true, true, true, true, true, true, true, true, true, true, true, true, true, true, true, true, true, true, true, true, true, true, true, true, true, false, true, false, false, false, false, false, false, false, false, false, false, false, false, false] rfl rfl (one_of HT_.out (by kernel_rfl)) (by decide) (fun K hK => ?_)
            refine goes_ Try.func29 (by kernel_rfl) rfl #[.agg #[.int .i64 t208, .int .u64 t209], .agg #[.int .i64 t210, .int .u64 t211]] (by rfl) rfl rfl (by (try simp only [List.map_toArray, List.map_cons, List.map_nil]); first | done | rfl | (simp only [List.length_drop, List.length_take]; rfl)) ?_
            with_reducible refine (wide_Cmp.calls k t208 t209 t210 t211 t287 _ A24.out).mono ?_
            rintro e w61 ⟨rfl, hb⟩
            refine ⟨_, rfl, ?_⟩
            have n0_ := Aside0.mk (blk_below (g := gb205) (o := .cells #[.int .i64 a0_0, .int .u64 a0_1] 24 (0, 0)) (by (with_reducible repeat (first | refine blk_drewN ?_ _ | refine blk_alloc ?_ _)); exact BK205.out) hb)
            have n1_ := Aside0.mk (blk_below (g := gb206) (o := .cells #[.int .i64 a1_0, .int .u64 a1_1] 24 (0, 0)) (by (with_reducible repeat (first | refine blk_drewN ?_ _ | refine blk_alloc ?_ _)); exact BK206.out) hb)
            have n2_ := Aside0.mk (blk_below (g := gb212) (o := .cells #[.int .i64 t208, .int .u64 t209] 28 (0, 0)) (by (with_reducible repeat (first | refine blk_drewN ?_ _ | refine blk_alloc ?_ _)); exact BK212.out) hb)
            have n3_ := Aside0.mk (blk_below (g := gb213) (o := .cells #[.int .i64 t210, .int .u64 t211] 28 (0, 0)) (by (with_reducible repeat (first | refine blk_drewN ?_ _ | refine blk_alloc ?_ _)); exact BK213.out) hb)
            have n4_ := Aside0.mk (below_step (by repeat (first | (with_reducible first | exact HB.out | apply below_alloc | apply pw_below_drewN | apply below_drew1 | refine below_set ?_ GE205.out | refine below_set ?_ GE206.out | refine below_set ?_ GE212.out | refine below_set ?_ GE213.out) | exact HB.out)) hb)
            clear BK205
            clear BK206
            clear BK212
            clear BK213
            clear HB
            have BK205 := n0_
            have BK206 := n1_
            have BK212 := n2_
            have BK213 := n3_
            have HB := n4_
            clear n0_ n1_ n2_ n3_ n4_
            (try clear hb)
            (try clear hb2)
            (try clear hk)
            (try clear hi)
            refine hK.out _ _ ⟨(blk_cell BK212.out 0).trans rfl, (blk_cell BK212.out 1).trans rfl, (blk_cell BK213.out 0).trans rfl, (blk_cell BK213.out 1).trans rfl, (blk_cell BK205.out 0).trans rfl, (blk_cell BK205.out 1).trans rfl, (blk_cell BK206.out 0).trans rfl, (blk_cell BK206.out 1).trans rfl⟩ (fun hHeld => ?_)
            clear hK K
            refine norm_ (a' := ?_) ?_ ?_
            rotate_left
            · show Act.put _ (some 44) _ = _
              simp only [Act.put, List.setIfInBounds_toArray, List.set_cons_zero, List.set_cons_succ, i64_w, i32_w]
              rfl
            refine one_ (i := 33) (N := some 46) #[true, true, true, true, true, true, true, true, true, true, true, true, true, true, true, true, true, true, true, true, true, true, true, true, true, true, true, true, true, true, true, true, true, true, true, false, false, false, false, false, false, false, false, false, false, false, false, false] rfl rfl (one_of HT_.out (by kernel_rfl)) (by decide) (fun K hK => ?_)
            refine goes_ Try.func25 (by kernel_rfl) rfl #[.agg #[.int .i64 a0_0, .int .u64 a0_1]] (by rfl) rfl rfl (by (try simp only [List.map_toArray, List.map_cons, List.map_nil]); first | done | rfl | (simp only [List.length_drop, List.length_take]; rfl)) ?_
            with_reducible refine (calamuslaw01_Two_ref.calls a0_0 a0_1 t288 t289 t290 t291 t292 t293 t294 t295 _ A25.out).mono ?_
            rintro e w62 ⟨rfl, hb⟩
            refine ⟨_, rfl, ?_⟩
            have n0_ := Aside0.mk (blk_below (g := gb205) (o := .cells #[.int .i64 a0_0, .int .u64 a0_1] 24 (0, 0)) (by (with_reducible repeat (first | refine blk_drewN ?_ _ | refine blk_alloc ?_ _)); exact BK205.out) hb)
            have n1_ := Aside0.mk (blk_below (g := gb206) (o := .cells #[.int .i64 a1_0, .int .u64 a1_1] 24 (0, 0)) (by (with_reducible repeat (first | refine blk_drewN ?_ _ | refine blk_alloc ?_ _)); exact BK206.out) hb)
            have n2_ := Aside0.mk (blk_below (g := gb212) (o := .cells #[.int .i64 t208, .int .u64 t209] 28 (0, 0)) (by (with_reducible repeat (first | refine blk_drewN ?_ _ | refine blk_alloc ?_ _)); exact BK212.out) hb)
            have n3_ := Aside0.mk (blk_below (g := gb213) (o := .cells #[.int .i64 t210, .int .u64 t211] 28 (0, 0)) (by (with_reducible repeat (first | refine blk_drewN ?_ _ | refine blk_alloc ?_ _)); exact BK213.out) hb)
            have n4_ := Aside0.mk (below_step (by repeat (first | (with_reducible first | exact HB.out | apply below_alloc | apply pw_below_drewN | apply below_drew1 | refine below_set ?_ GE205.out | refine below_set ?_ GE206.out | refine below_set ?_ GE212.out | refine below_set ?_ GE213.out) | exact HB.out)) hb)
            clear BK205
            clear BK206
            clear BK212
            clear BK213
            clear HB
            have BK205 := n0_
            have BK206 := n1_
            have BK212 := n2_
            have BK213 := n3_
            have HB := n4_
            clear n0_ n1_ n2_ n3_ n4_
            (try clear hb)
            (try clear hb2)
            (try clear hk)
            (try clear hi)
            refine hK.out _ _ ⟨(blk_cell BK212.out 0).trans rfl, (blk_cell BK212.out 1).trans rfl, (blk_cell BK213.out 0).trans rfl, (blk_cell BK213.out 1).trans rfl, (blk_cell BK205.out 0).trans rfl, (blk_cell BK205.out 1).trans rfl, (blk_cell BK206.out 0).trans rfl, (blk_cell BK206.out 1).trans rfl⟩ (fun hHeld => ?_)
            clear hK K
            refine norm_ (a' := ?_) ?_ ?_
            rotate_left
            · show Act.put _ (some 46) _ = _
              simp only [Act.put, List.setIfInBounds_toArray, List.set_cons_zero, List.set_cons_succ, i64_w, i32_w]
              rfl
            refine one_ (i := 35) (N := some 48) #[true, true, true, true, true, true, true, true, true, true, true, true, true, true, true, true, true, true, true, true, true, true, true, true, true, true, true, true, true, true, true, true, true, true, true, true, false, false, false, false, false, false, false, false, false, false, false, false] rfl rfl (one_of HT_.out (by kernel_rfl)) (by decide) (fun K hK => ?_)
            refine goes_ Try.func25 (by kernel_rfl) rfl #[.agg #[.int .i64 a1_0, .int .u64 a1_1]] (by rfl) rfl rfl (by (try simp only [List.map_toArray, List.map_cons, List.map_nil]); first | done | rfl | (simp only [List.length_drop, List.length_take]; rfl)) ?_
            with_reducible refine (calamuslaw01_Two_ref.calls a1_0 a1_1 t296 t297 t298 t299 t300 t301 t302 t303 _ A26.out).mono ?_
            rintro e w63 ⟨rfl, hb⟩
            refine ⟨_, rfl, ?_⟩
            have n0_ := Aside0.mk (blk_below (g := gb205) (o := .cells #[.int .i64 a0_0, .int .u64 a0_1] 24 (0, 0)) (by (with_reducible repeat (first | refine blk_drewN ?_ _ | refine blk_alloc ?_ _)); exact BK205.out) hb)
            have n1_ := Aside0.mk (blk_below (g := gb206) (o := .cells #[.int .i64 a1_0, .int .u64 a1_1] 24 (0, 0)) (by (with_reducible repeat (first | refine blk_drewN ?_ _ | refine blk_alloc ?_ _)); exact BK206.out) hb)
            have n2_ := Aside0.mk (blk_below (g := gb212) (o := .cells #[.int .i64 t208, .int .u64 t209] 28 (0, 0)) (by (with_reducible repeat (first | refine blk_drewN ?_ _ | refine blk_alloc ?_ _)); exact BK212.out) hb)
            have n3_ := Aside0.mk (blk_below (g := gb213) (o := .cells #[.int .i64 t210, .int .u64 t211] 28 (0, 0)) (by (with_reducible repeat (first | refine blk_drewN ?_ _ | refine blk_alloc ?_ _)); exact BK213.out) hb)
            have n4_ := Aside0.mk (below_step (by repeat (first | (with_reducible first | exact HB.out | apply below_alloc | apply pw_below_drewN | apply below_drew1 | refine below_set ?_ GE205.out | refine below_set ?_ GE206.out | refine below_set ?_ GE212.out | refine below_set ?_ GE213.out) | exact HB.out)) hb)
            clear BK205
            clear BK206
            clear BK212
            clear BK213
            clear HB
            have BK205 := n0_
            have BK206 := n1_
            have BK212 := n2_
            have BK213 := n3_
            have HB := n4_
            clear n0_ n1_ n2_ n3_ n4_
            (try clear hb)
            (try clear hb2)
            (try clear hk)
            (try clear hi)
            refine hK.out _ _ ⟨(blk_cell BK212.out 0).trans rfl, (blk_cell BK212.out 1).trans rfl, (blk_cell BK213.out 0).trans rfl, (blk_cell BK213.out 1).trans rfl, (blk_cell BK205.out 0).trans rfl, (blk_cell BK205.out 1).trans rfl, (blk_cell BK206.out 0).trans rfl, (blk_cell BK206.out 1).trans rfl⟩ (fun hHeld => ?_)
            clear hK K
            refine norm_ (a' := ?_) ?_ ?_
            rotate_left
            · show Act.put _ (some 48) _ = _
              simp only [Act.put, List.setIfInBounds_toArray, List.set_cons_zero, List.set_cons_succ, i64_w, i32_w]
              rfl
            refine one_ (i := 36) (N := some 49) #[true, true, true, true, true, true, true, true, true, true, true, true, true, true, true, true, true, true, true, true, true, true, true, true, true, true, true, true, true, true, true, true, true, true, true, true, true, false, false, false, false, false, false, false, false, false, false, false] rfl rfl (one_of HT_.out (by kernel_rfl)) (by decide) (fun K hK => ?_)
            refine goes_ Try.func37 (by kernel_rfl) rfl #[.agg #[.int .u32 t288, .int .u32 t289, .int .u32 t290, .int .u32 t291, .int .u32 t292, .int .u32 t293, .int .u32 t294, .int .u32 t295], .agg #[.int .u32 t296, .int .u32 t297, .int .u32 t298, .int .u32 t299, .int .u32 t300, .int .u32 t301, .int .u32 t302, .int .u32 t303]] (by rfl) rfl rfl (by (try simp only [List.map_toArray, List.map_cons, List.map_nil]); first | done | rfl | (simp only [List.length_drop, List.length_take]; rfl)) ?_
            with_reducible refine (calamusref01_Cmp.calls t288 t289 t290 t291 t292 t293 t294 t295 t296 t297 t298 t299 t300 t301 t302 t303 t304 _ A27.out).mono ?_
            rintro e w64 ⟨rfl, hb⟩
            refine ⟨_, rfl, ?_⟩
            have n0_ := Aside0.mk (blk_below (g := gb205) (o := .cells #[.int .i64 a0_0, .int .u64 a0_1] 24 (0, 0)) (by (with_reducible repeat (first | refine blk_drewN ?_ _ | refine blk_alloc ?_ _)); exact BK205.out) hb)
            have n1_ := Aside0.mk (blk_below (g := gb206) (o := .cells #[.int .i64 a1_0, .int .u64 a1_1] 24 (0, 0)) (by (with_reducible repeat (first | refine blk_drewN ?_ _ | refine blk_alloc ?_ _)); exact BK206.out) hb)
            have n2_ := Aside0.mk (blk_below (g := gb212) (o := .cells #[.int .i64 t208, .int .u64 t209] 28 (0, 0)) (by (with_reducible repeat (first | refine blk_drewN ?_ _ | refine blk_alloc ?_ _)); exact BK212.out) hb)
            have n3_ := Aside0.mk (blk_below (g := gb213) (o := .cells #[.int .i64 t210, .int .u64 t211] 28 (0, 0)) (by (with_reducible repeat (first | refine blk_drewN ?_ _ | refine blk_alloc ?_ _)); exact BK213.out) hb)
            have n4_ := Aside0.mk (below_step (by repeat (first | (with_reducible first | exact HB.out | apply below_alloc | apply pw_below_drewN | apply below_drew1 | refine below_set ?_ GE205.out | refine below_set ?_ GE206.out | refine below_set ?_ GE212.out | refine below_set ?_ GE213.out) | exact HB.out)) hb)
            clear BK205
            clear BK206
            clear BK212
            clear BK213
            clear HB
            have BK205 := n0_
            have BK206 := n1_
            have BK212 := n2_
            have BK213 := n3_
            have HB := n4_
            clear n0_ n1_ n2_ n3_ n4_
            (try clear hb)
            (try clear hb2)
            (try clear hk)
            (try clear hi)
            refine hK.out _ _ ⟨(blk_cell BK212.out 0).trans rfl, (blk_cell BK212.out 1).trans rfl, (blk_cell BK213.out 0).trans rfl, (blk_cell BK213.out 1).trans rfl, (blk_cell BK205.out 0).trans rfl, (blk_cell BK205.out 1).trans rfl, (blk_cell BK206.out 0).trans rfl, (blk_cell BK206.out 1).trans rfl⟩ (fun hHeld => ?_)
            clear hK K
            refine norm_ (a' := ?_) ?_ ?_
            rotate_left
            · show Act.put _ (some 49) _ = _
              simp only [Act.put, List.setIfInBounds_toArray, List.set_cons_zero, List.set_cons_succ, i64_w, i32_w]
              rfl
            refine pure_ (i := 37) (N := some 50) (v := ?_) (a' := ?_) #[true, true, true, true, true, true, true, true, true, true, true, true, true, true, true, true, true, true, true, true, true, true, true, true, true, true, true, true, true, true, true, true, true, true, true, true, true, true, false, false, false, false, false, false, false, false, false, false] rfl rfl (any_of HT_.out (by kernel_rfl)) (fun _ _ _ h => h) (Or.inl ⟨by rfl, ?_⟩) ?_ ?_
            rotate_left
            · intro w'
              go_simp
              with_reducible rfl
            rotate_left
            · simp only [Act.put, List.setIfInBounds_toArray, List.set_cons_zero, List.set_cons_succ, i64_w, i32_w]
              rfl
            refine pure_ (i := 38) (N := some 51) (v := ?_) (a' := ?_) #[true, true, true, true, true, true, true, true, true, true, true, true, true, true, true, true, true, true, true, true, true, true, true, true, true, true, true, true, true, true, true, true, true, true, true, true, true, true, true, false, false, false, false, false, false, false, false, false] rfl rfl (any_of HT_.out (by kernel_rfl)) (fun _ _ _ h => h) (Or.inl ⟨by rfl, ?_⟩) ?_ ?_
            rotate_left
            · intro w'
              go_simp
              with_reducible rfl
            rotate_left
            · simp only [Act.put, List.setIfInBounds_toArray, List.set_cons_zero, List.set_cons_succ, i64_w, i32_w]
              rfl
            refine pure_ (i := 39) (N := some 52) (v := ?_) (a' := ?_) #[true, true, true, true, true, true, true, true, true, true, true, true, true, true, true, true, true, true, true, true, true, true, true, true, true, true, true, true, true, true, true, true, true, true, true, true, true, true, true, true, false, false, false, false, false, false, false, false] rfl rfl (any_of HT_.out (by kernel_rfl)) (fun _ _ _ h => h) (Or.inl ⟨by rfl, ?_⟩) ?_ ?_
            rotate_left
            · intro w'
              go_simp
              with_reducible rfl
            rotate_left
            · simp only [Act.put, List.setIfInBounds_toArray, List.set_cons_zero, List.set_cons_succ, i64_w, i32_w]
              rfl
            refine take_ (i := 40) (N := some 53) (v := ?_) (a' := ?_) #[true, true, true, true, true, true, true, true, true, true, true, true, true, true, true, true, true, true, true, true, true, true, true, true, true, true, true, true, true, true, true, true, true, true, true, true, true, true, true, true, true, false, false, false, false, false, false, false] rfl rfl (take_ofW HT_.out HW_.out (by kernel_rfl)) (fun _ _ _ h => h) (Or.inl ⟨by rfl, ?_⟩) hHeld ?_ ?_
            rotate_left
            · rintro w' ⟨s0, s1, s2, s3, s4, s5, s6, s7⟩
              go_simp
              with_reducible rfl
            rotate_left
            · simp only [Act.put, List.setIfInBounds_toArray, List.set_cons_zero, List.set_cons_succ, i64_w, i32_w]
              rfl
            refine take_ (i := 42) (N := some 55) (v := ?_) (a' := ?_) #[true, true, true, true, true, true, true, true, true, true, true, true, true, true, true, true, true, true, true, true, true, true, true, true, true, true, true, true, true, true, true, true, true, true, true, true, true, true, true, true, true, false, true, false, false, false, false, false] rfl rfl (take_ofW HT_.out HW_.out (by kernel_rfl)) (fun _ _ _ h => h) (Or.inl ⟨by rfl, ?_⟩) hHeld ?_ ?_
            rotate_left
            · rintro w' ⟨s0, s1, s2, s3, s4, s5, s6, s7⟩
              go_simp
              with_reducible rfl
            rotate_left
            · simp only [Act.put, List.setIfInBounds_toArray, List.set_cons_zero, List.set_cons_succ, i64_w, i32_w]
              rfl
            refine one_ (i := 41) (N := some 54) #[true, true, true, true, true, true, true, true, true, true, true, true, true, true, true, true, true, true, true, true, true, true, true, true, true, true, true, true, true, true, true, true, true, true, true, true, true, true, true, true, true, true, true, false, false, false, false, false] rfl rfl (one_of HT_.out (by kernel_rfl)) (by decide) (fun K hK => ?_)
            refine goes_ Try.func30 (by kernel_rfl) rfl #[.agg #[.int .i64 t208, .int .u64 t209]] (by rfl) rfl rfl (by (try simp only [List.map_toArray, List.map_cons, List.map_nil]); first | done | rfl | (simp only [List.length_drop, List.length_take]; rfl)) ?_
            with_reducible refine (wide_Sign.calls k t208 t209 t305 _ A29.out).mono ?_
            rintro e w65 ⟨rfl, hb⟩
            refine ⟨_, rfl, ?_⟩
            have n0_ := Aside0.mk (blk_below (g := gb205) (o := .cells #[.int .i64 a0_0, .int .u64 a0_1] 24 (0, 0)) (by (with_reducible repeat (first | refine blk_drewN ?_ _ | refine blk_alloc ?_ _)); exact BK205.out) hb)
            have n1_ := Aside0.mk (blk_below (g := gb206) (o := .cells #[.int .i64 a1_0, .int .u64 a1_1] 24 (0, 0)) (by (with_reducible repeat (first | refine blk_drewN ?_ _ | refine blk_alloc ?_ _)); exact BK206.out) hb)
            have n2_ := Aside0.mk (blk_below (g := gb212) (o := .cells #[.int .i64 t208, .int .u64 t209] 28 (0, 0)) (by (with_reducible repeat (first | refine blk_drewN ?_ _ | refine blk_alloc ?_ _)); exact BK212.out) hb)
            have n3_ := Aside0.mk (blk_below (g := gb213) (o := .cells #[.int .i64 t210, .int .u64 t211] 28 (0, 0)) (by (with_reducible repeat (first | refine blk_drewN ?_ _ | refine blk_alloc ?_ _)); exact BK213.out) hb)
            have n4_ := Aside0.mk (below_step (by repeat (first | (with_reducible first | exact HB.out | apply below_alloc | apply pw_below_drewN | apply below_drew1 | refine below_set ?_ GE205.out | refine below_set ?_ GE206.out | refine below_set ?_ GE212.out | refine below_set ?_ GE213.out) | exact HB.out)) hb)
            clear BK205
            clear BK206
            clear BK212
            clear BK213
            clear HB
            have BK205 := n0_
            have BK206 := n1_
            have BK212 := n2_
            have BK213 := n3_
            have HB := n4_
            clear n0_ n1_ n2_ n3_ n4_
            (try clear hb)
            (try clear hb2)
            (try clear hk)
            (try clear hi)
            refine hK.out _ _ ⟨(blk_cell BK212.out 0).trans rfl, (blk_cell BK212.out 1).trans rfl, (blk_cell BK213.out 0).trans rfl, (blk_cell BK213.out 1).trans rfl, (blk_cell BK205.out 0).trans rfl, (blk_cell BK205.out 1).trans rfl, (blk_cell BK206.out 0).trans rfl, (blk_cell BK206.out 1).trans rfl⟩ (fun hHeld => ?_)
            clear hK K
            refine norm_ (a' := ?_) ?_ ?_
            rotate_left
            · show Act.put _ (some 54) _ = _
              simp only [Act.put, List.setIfInBounds_toArray, List.set_cons_zero, List.set_cons_succ, i64_w, i32_w]
              rfl
            refine one_ (i := 43) (N := some 56) #[true, true, true, true, true, true, true, true, true, true, true, true, true, true, true, true, true, true, true, true, true, true, true, true, true, true, true, true, true, true, true, true, true, true, true, true, true, true, true, true, true, true, true, true, false, false, false, false] rfl rfl (one_of HT_.out (by kernel_rfl)) (by decide) (fun K hK => ?_)
            refine goes_ Try.func25 (by kernel_rfl) rfl #[.agg #[.int .i64 a0_0, .int .u64 a0_1]] (by rfl) rfl rfl (by (try simp only [List.map_toArray, List.map_cons, List.map_nil]); first | done | rfl | (simp only [List.length_drop, List.length_take]; rfl)) ?_
            with_reducible refine (calamuslaw01_Two_ref.calls a0_0 a0_1 t306 t307 t308 t309 t310 t311 t312 t313 _ A30.out).mono ?_
            rintro e w66 ⟨rfl, hb⟩
            refine ⟨_, rfl, ?_⟩
            have n0_ := Aside0.mk (blk_below (g := gb205) (o := .cells #[.int .i64 a0_0, .int .u64 a0_1] 24 (0, 0)) (by (with_reducible repeat (first | refine blk_drewN ?_ _ | refine blk_alloc ?_ _)); exact BK205.out) hb)
            have n1_ := Aside0.mk (blk_below (g := gb206) (o := .cells #[.int .i64 a1_0, .int .u64 a1_1] 24 (0, 0)) (by (with_reducible repeat (first | refine blk_drewN ?_ _ | refine blk_alloc ?_ _)); exact BK206.out) hb)
            have n2_ := Aside0.mk (blk_below (g := gb212) (o := .cells #[.int .i64 t208, .int .u64 t209] 28 (0, 0)) (by (with_reducible repeat (first | refine blk_drewN ?_ _ | refine blk_alloc ?_ _)); exact BK212.out) hb)
            have n3_ := Aside0.mk (blk_below (g := gb213) (o := .cells #[.int .i64 t210, .int .u64 t211] 28 (0, 0)) (by (with_reducible repeat (first | refine blk_drewN ?_ _ | refine blk_alloc ?_ _)); exact BK213.out) hb)
            have n4_ := Aside0.mk (below_step (by repeat (first | (with_reducible first | exact HB.out | apply below_alloc | apply pw_below_drewN | apply below_drew1 | refine below_set ?_ GE205.out | refine below_set ?_ GE206.out | refine below_set ?_ GE212.out | refine below_set ?_ GE213.out) | exact HB.out)) hb)
            clear BK205
            clear BK206
            clear BK212
            clear BK213
            clear HB
            have BK205 := n0_
            have BK206 := n1_
            have BK212 := n2_
            have BK213 := n3_
            have HB := n4_
            clear n0_ n1_ n2_ n3_ n4_
            (try clear hb)
            (try clear hb2)
            (try clear hk)
            (try clear hi)
            refine hK.out _ _ ⟨(blk_cell BK212.out 0).trans rfl, (blk_cell BK212.out 1).trans rfl, (blk_cell BK213.out 0).trans rfl, (blk_cell BK213.out 1).trans rfl, (blk_cell BK205.out 0).trans rfl, (blk_cell BK205.out 1).trans rfl, (blk_cell BK206.out 0).trans rfl, (blk_cell BK206.out 1).trans rfl⟩ (fun hHeld => ?_)
            clear hK K
            refine norm_ (a' := ?_) ?_ ?_
            rotate_left
            · show Act.put _ (some 56) _ = _
              simp only [Act.put, List.setIfInBounds_toArray, List.set_cons_zero, List.set_cons_succ, i64_w, i32_w]
              rfl
            refine one_ (i := 44) (N := some 57) #[true, true, true, true, true, true, true, true, true, true, true, true, true, true, true, true, true, true, true, true, true, true, true, true, true, true, true, true, true, true, true, true, true, true, true, true, true, true, true, true, true, true, true, true, true, false, false, false] rfl rfl (one_of HT_.out (by kernel_rfl)) (by decide) (fun K hK => ?_)
            refine goes_ Try.func38 (by kernel_rfl) rfl #[.agg #[.int .u32 t306, .int .u32 t307, .int .u32 t308, .int .u32 t309, .int .u32 t310, .int .u32 t311, .int .u32 t312, .int .u32 t313]] (by rfl) rfl rfl (by (try simp only [List.map_toArray, List.map_cons, List.map_nil]); first | done | rfl | (simp only [List.length_drop, List.length_take]; rfl)) ?_
            with_reducible refine (calamusref01_Sign.calls t306 t307 t308 t309 t310 t311 t312 t313 t314 _ A31.out).mono ?_
            rintro e w67 ⟨rfl, hb⟩
            refine ⟨_, rfl, ?_⟩
            have n0_ := Aside0.mk (blk_below (g := gb205) (o := .cells #[.int .i64 a0_0, .int .u64 a0_1] 24 (0, 0)) (by (with_reducible repeat (first | refine blk_drewN ?_ _ | refine blk_alloc ?_ _)); exact BK205.out) hb)
            have n1_ := Aside0.mk (blk_below (g := gb206) (o := .cells #[.int .i64 a1_0, .int .u64 a1_1] 24 (0, 0)) (by (with_reducible repeat (first | refine blk_drewN ?_ _ | refine blk_alloc ?_ _)); exact BK206.out) hb)
            have n2_ := Aside0.mk (blk_below (g := gb212) (o := .cells #[.int .i64 t208, .int .u64 t209] 28 (0, 0)) (by (with_reducible repeat (first | refine blk_drewN ?_ _ | refine blk_alloc ?_ _)); exact BK212.out) hb)
            have n3_ := Aside0.mk (blk_below (g := gb213) (o := .cells #[.int .i64 t210, .int .u64 t211] 28 (0, 0)) (by (with_reducible repeat (first | refine blk_drewN ?_ _ | refine blk_alloc ?_ _)); exact BK213.out) hb)
            have n4_ := Aside0.mk (below_step (by repeat (first | (with_reducible first | exact HB.out | apply below_alloc | apply pw_below_drewN | apply below_drew1 | refine below_set ?_ GE205.out | refine below_set ?_ GE206.out | refine below_set ?_ GE212.out | refine below_set ?_ GE213.out) | exact HB.out)) hb)
            clear BK205
            clear BK206
            clear BK212
            clear BK213
            clear HB
            have BK205 := n0_
            have BK206 := n1_
            have BK212 := n2_
            have BK213 := n3_
            have HB := n4_
            clear n0_ n1_ n2_ n3_ n4_
            (try clear hb)
            (try clear hb2)
            (try clear hk)
            (try clear hi)
            refine hK.out _ _ ⟨(blk_cell BK212.out 0).trans rfl, (blk_cell BK212.out 1).trans rfl, (blk_cell BK213.out 0).trans rfl, (blk_cell BK213.out 1).trans rfl, (blk_cell BK205.out 0).trans rfl, (blk_cell BK205.out 1).trans rfl, (blk_cell BK206.out 0).trans rfl, (blk_cell BK206.out 1).trans rfl⟩ (fun hHeld => ?_)
            clear hK K
            refine norm_ (a' := ?_) ?_ ?_
            rotate_left
            · show Act.put _ (some 57) _ = _
              simp only [Act.put, List.setIfInBounds_toArray, List.set_cons_zero, List.set_cons_succ, i64_w, i32_w]
              rfl
            refine pure_ (i := 45) (N := some 58) (v := ?_) (a' := ?_) #[true, true, true, true, true, true, true, true, true, true, true, true, true, true, true, true, true, true, true, true, true, true, true, true, true, true, true, true, true, true, true, true, true, true, true, true, true, true, true, true, true, true, true, true, true, true, false, false] rfl rfl (any_of HT_.out (by kernel_rfl)) (fun _ _ _ h => h) (Or.inl ⟨by rfl, ?_⟩) ?_ ?_
            rotate_left
            · intro w'
              go_simp
              with_reducible rfl
            rotate_left
            · simp only [Act.put, List.setIfInBounds_toArray, List.set_cons_zero, List.set_cons_succ, i64_w, i32_w]
              rfl
            refine pure_ (i := 46) (N := some 59) (v := ?_) (a' := ?_) #[true, true, true, true, true, true, true, true, true, true, true, true, true, true, true, true, true, true, true, true, true, true, true, true, true, true, true, true, true, true, true, true, true, true, true, true, true, true, true, true, true, true, true, true, true, true, true, false] rfl rfl (any_of HT_.out (by kernel_rfl)) (fun _ _ _ h => h) (Or.inl ⟨by rfl, ?_⟩) ?_ ?_
            rotate_left
            · intro w'
              go_simp
              with_reducible rfl
            rotate_left
            · simp only [Act.put, List.setIfInBounds_toArray, List.set_cons_zero, List.set_cons_succ, i64_w, i32_w]
              rfl
            refine pure_ (i := 47) (N := some 4) (v := ?_) (a' := ?_) #[true, true, true, true, true, true, true, true, true, true, true, true, true, true, true, true, true, true, true, true, true, true, true, true, true, true, true, true, true, true, true, true, true, true, true, true, true, true, true, true, true, true, true, true, true, true, true, true] rfl rfl (any_of HT_.out (by kernel_rfl)) (fun _ _ _ h => h) (Or.inl ⟨by rfl, ?_⟩) ?_ ?_
            rotate_left
            · intro w'
              go_simp
              with_reducible rfl
            rotate_left
            · simp only [Act.put, List.setIfInBounds_toArray, List.set_cons_zero, List.set_cons_succ, i64_w, i32_w]
              rfl
            refine done_ (done_of HT_.out (by kernel_rfl)) ?_
            try go_wp2
            go_ret
            exact ⟨by first | rfl | (simp [errW_none, errW_some] <;> rfl) | (simp [*, errW_none, errW_some] <;> rfl), by repeat (first | (with_reducible first | exact HB.out | apply below_alloc | apply pw_below_drewN | apply below_drew1 | refine below_set ?_ GE205.out | refine below_set ?_ GE206.out | refine below_set ?_ GE212.out | refine below_set ?_ GE213.out) | exact HB.out)⟩
          · rw [if_neg c28] at H
            exact absurd H (by simp)
        · replace c23 := Bool.eq_false_iff.mpr c23
          subst c23
          have H1 : (none) = some r := by rw [if_neg (show ¬ (false = true) by decide)] at H; exact H
          clear H
          have H := H1
          clear H1
          exact absurd H (by simp)
      · replace c18 := Bool.eq_false_iff.mpr c18
        subst c18
        have H1 : (none) = some r := by rw [if_neg (show ¬ (false = true) by decide)] at H; exact H
        clear H
        have H := H1
        clear H1
        exact absurd H (by simp)
    · replace c12 := Bool.eq_false_iff.mpr c12
      subst c12
      have H1 : (none) = some r := by rw [if_neg (show ¬ (false = true) by decide)] at H; exact H
      clear H
      have H := H1
      clear H1
      exact absurd H (by simp)
  · replace c4 := Bool.eq_false_iff.mpr c4
    subst c4
    have H1 : (none) = some r := by rw [if_neg (show ¬ (false = true) by decide)] at H; exact H
    clear H
    have H := H1
    clear H1
    exact absurd H (by simp)

end Go.Proofs.Ytiicdgimffpckaa.W
