-- Printed by the kit's print.py over contracts of this session's own.
import Derived.Test.YteamldgngknmfaaZDLawMetB
import Derived.Test.YteamldgngknmfaaZDMNorm
import Derived.Test.YteamldgngknmfaaZDPEx0
import Derived.Test.YteamldgngknmfaaZDPEx4
import Derived.Test.YteamldgngknmfaaZDPEx10
import Derived.Test.YteamldgngknmfaaZDPEx11
namespace Go.Proofs.Yteamldgngknmfaa.PE
open Go.RowKit Go.Proofs.YteamldgngknmfaaW.PrintWords Go.Proofs.YteamldgngknmfaaW.PrintLast Go.Proofs.YteamldgngknmfaaW.PrintMore
attribute [local go_sem] max2_int min2_int max_two min_two max_three min_three max_four min_four   -- for this text's walks alone
set_option linter.unusedVariables false
set_option linter.unusedSimpArgs false
/-! ### forebaylaw07_MetricOnce: function 8 -/
def forebaylaw07_MetricOnce.f (k : Nat) (a0_0 : ByteArray) (a0_1 : Int) (l0_2 : List (S40)) (a0_3 : Int) (l0_4 : List (S37)) (a0_5 : Int) : Option (Bool) := (forebaylaw07_Few.f k a0_0 a0_1 l0_2 a0_3 l0_4 a0_5).bind fun t427 => (if t427 = true then ((metric_Normal.f a0_0 a0_1 l0_2 a0_3 l0_4 a0_5).bind fun bt429 => (if bt429.2.2.2.2.2.2 = 0 then ((metric_Normal.f bt429.1 bt429.2.1 bt429.2.2.1 bt429.2.2.2.1 bt429.2.2.2.2.1 bt429.2.2.2.2.2.1).bind fun bt446 => ((metric_Check.f bt429.1 bt429.2.1 bt429.2.2.1 bt429.2.2.2.1 bt429.2.2.2.2.1 bt429.2.2.2.2.2.1).bind fun t458 => (if t458 = 0 then ((metric_Is.f k bt429.1 bt429.2.1 bt429.2.2.1 bt429.2.2.2.1 bt429.2.2.2.2.1 bt429.2.2.2.2.2.1).bind fun t459 => (if t459 = true then ((tag_Is.f k bt429.2.2.2.2.1).bind fun t460 => (if t460 = true then (if bt446.2.2.2.2.2.2 = 0 then ((metric_Equal.f k bt446.1 bt446.2.1 bt446.2.2.1 bt446.2.2.2.1 bt446.2.2.2.2.1 bt446.2.2.2.2.2.1 bt429.1 bt429.2.1 bt429.2.2.1 bt429.2.2.2.1 bt429.2.2.2.2.1 bt429.2.2.2.2.2.1).bind fun t461 => (if t461 = true then ((metric_Same.f k a0_0 a0_1 l0_2 a0_3 l0_4 a0_5 bt429.1 bt429.2.1 bt429.2.2.1 bt429.2.2.2.1 bt429.2.2.2.2.1 bt429.2.2.2.2.2.1).bind fun t462 => (if t462 = true then ((metric_Is.f k a0_0 a0_1 l0_2 a0_3 l0_4 a0_5).bind fun t463 => ((metric_Check.f a0_0 a0_1 l0_2 a0_3 l0_4 a0_5).bind fun t464 => (if t464 = 0 then ((metric_Equal.f k a0_0 a0_1 l0_2 a0_3 l0_4 a0_5 bt429.1 bt429.2.1 bt429.2.2.1 bt429.2.2.2.1 bt429.2.2.2.2.1 bt429.2.2.2.2.2.1).bind fun t465 => (if (t463 == t465) = true then ((forebaylaw07_awake.f k).bind fun t466 => (some t466)) else (none))) else (if (t463 == false) = true then ((forebaylaw07_awake.f k).bind fun t467 => (some t467)) else (none))))) else (none))) else (none))) else (none)) else (none))) else (none))) else (none)))) else ((metric_Check.f a0_0 a0_1 l0_2 a0_3 l0_4 a0_5).bind fun t441 => (if t441 = 0 then (none) else ((metric_Is.f k a0_0 a0_1 l0_2 a0_3 l0_4 a0_5).bind fun t442 => (if t442 = true then (none) else ((metric_Same.f k a0_0 a0_1 l0_2 a0_3 l0_4 a0_5 a0_0 a0_1 l0_2 a0_3 l0_4 a0_5).bind fun t443 => (if t443 = true then (none) else ((metric_Equal.f k bt429.1 bt429.2.1 bt429.2.2.1 bt429.2.2.2.1 bt429.2.2.2.2.1 bt429.2.2.2.2.2.1 (⟨#[]⟩ : ByteArray) 0 ([] : List (S40)) 0 ([] : List (S37)) 0).bind fun t444 => (if t444 = true then ((forebaylaw07_awake.f k).bind fun t445 => (some t445)) else (none))))))))))) else ((forebaylaw07_awake.f k).bind fun t428 => (some t428)))
def forebaylaw07_MetricOnce.T7 : Bool × List (List Nat × List Nat) := (true, [([], []), ([0], [0]), ([1], [1]), ([2, 1], [2]), ([3], [3]), ([4, 3, 3], [3, 4]), ([3, 5], [3, 5]), ([6, 5], [6]), ([7], [7]), ([8, 7], [7, 8]), ([9, 7, 7], [7, 9]), ([7, 10], [7, 10]), ([11, 10], [11]), ([12], [12]), ([13, 12], [12, 13]), ([12, 14], [12, 14]), ([15, 12], [15]), ([16], [16]), ([16], [16]), ([17, 18, 16, 16], [16, 17, 18]), ([16, 19], [16, 19]), ([20, 19], [20]), ([21], [21]), ([21], [21]), ([22, 23, 21, 21], [21, 22, 23]), ([21, 24], [21, 24]), ([25, 24], [25]), ([26], [26]), ([27, 26, 26], [26, 27]), ([26], [26]), ([29, 28, 26], [26, 29]), ([30, 26], [26, 30]), ([31, 30, 26], [26, 31]), ([32], [32]), ([32], [32]), ([33, 34, 32, 32], [32, 33, 34]), ([32, 35, 26], [26, 32, 35]), ([28, 36, 26], [26, 28, 36]), ([26, 37], [26, 37]), ([38, 35], [38]), ([39, 39], [39]), ([39, 40], [39, 40]), ([41, 40, 0, 1, 2, 3, 4, 5, 6, 7, 8, 9, 10, 11, 12, 13, 14, 15, 16, 17, 18, 19, 20, 21, 22, 23, 24, 25, 26, 27, 28, 29, 30, 31, 32, 33, 34, 35, 36, 37, 38, 39, 40, 41], [41])])
def forebaylaw07_MetricOnce.B7 : List Nat := [0, 1, 3, 7, 15, 31, 63, 127, 255, 511, 1023, 2047, 4095, 8191, 16383, 32767, 65535, 131071, 131071, 524287, 1048575, 2097151, 4194303, 4194303, 16777215, 33554431, 67108863, 134217727, 268435455, 134217727, 1073741823, 2147483647, 4294967295, 8589934591, 8589934591, 34359738367, 68719476735, 137438953471, 274877906943, 549755813887, 1099511627775, 2199023255551, 4398046511103]
theorem forebaylaw07_MetricOnce.tab7 : rtab .any (opsOf Try.f8 7) = forebaylaw07_MetricOnce.T7 := by kernel_rfl
theorem forebaylaw07_MetricOnce.bits7 : waitsOk forebaylaw07_MetricOnce.T7.2 forebaylaw07_MetricOnce.B7 = true := by kernel_rfl
set_option maxHeartbeats 8000000 in
set_option maxRecDepth 100000 in
theorem forebaylaw07_MetricOnce.calls (k : Nat) (a0_0 : ByteArray) (a0_1 : Int) (A0_2 : Option Addr) (c0_2 : Nat) (l0_2 : List (S40)) (a0_3 : Int) (A0_4 : Option Addr) (c0_4 : Nat) (l0_4 : List (S37)) (a0_5 : Int) (r : Bool) (w : World) (hr0_2 : Kd.C k40 w A0_2 l0_2.length l0_2) (hc0_2 : l0_2.length ≤ c0_2) (hr0_4 : Kd.C k37 w A0_4 l0_4.length l0_4) (hc0_4 : l0_4.length ≤ c0_4) (h : forebaylaw07_MetricOnce.f k a0_0 a0_1 l0_2 a0_3 l0_4 a0_5 = some r) :
  Calls Try.prog 8 #[.agg #[.string a0_0, .int .i64 a0_1, .slice A0_2 l0_2.length c0_2, .int .i64 a0_3, .slice A0_4 l0_4.length c0_4, .int .i64 a0_5]] w fun e w' => e = .returned (.bool r) ∧ Below w.heap.size w w' := by
 have hu25 := Try.underlying25
 have HR0_2 := Aside0.mk hr0_2
 have HC0_2 := Aside0.mk hc0_2
 clear hr0_2 hc0_2
 have HR0_4 := Aside0.mk hr0_4
 have HC0_4 := Aside0.mk hc0_4
 clear hr0_4 hc0_4
 have HB := Aside0.mk (Below.refl w.heap.size w)
 have H : ((forebaylaw07_Few.f k a0_0 a0_1 l0_2 a0_3 l0_4 a0_5).bind fun t427 => (if t427 = true then ((metric_Normal.f a0_0 a0_1 l0_2 a0_3 l0_4 a0_5).bind fun bt429 => (if bt429.2.2.2.2.2.2 = 0 then ((metric_Normal.f bt429.1 bt429.2.1 bt429.2.2.1 bt429.2.2.2.1 bt429.2.2.2.2.1 bt429.2.2.2.2.2.1).bind fun bt446 => ((metric_Check.f bt429.1 bt429.2.1 bt429.2.2.1 bt429.2.2.2.1 bt429.2.2.2.2.1 bt429.2.2.2.2.2.1).bind fun t458 => (if t458 = 0 then ((metric_Is.f k bt429.1 bt429.2.1 bt429.2.2.1 bt429.2.2.2.1 bt429.2.2.2.2.1 bt429.2.2.2.2.2.1).bind fun t459 => (if t459 = true then ((tag_Is.f k bt429.2.2.2.2.1).bind fun t460 => (if t460 = true then (if bt446.2.2.2.2.2.2 = 0 then ((metric_Equal.f k bt446.1 bt446.2.1 bt446.2.2.1 bt446.2.2.2.1 bt446.2.2.2.2.1 bt446.2.2.2.2.2.1 bt429.1 bt429.2.1 bt429.2.2.1 bt429.2.2.2.1 bt429.2.2.2.2.1 bt429.2.2.2.2.2.1).bind fun t461 => (if t461 = true then ((metric_Same.f k a0_0 a0_1 l0_2 a0_3 l0_4 a0_5 bt429.1 bt429.2.1 bt429.2.2.1 bt429.2.2.2.1 bt429.2.2.2.2.1 bt429.2.2.2.2.2.1).bind fun t462 => (if t462 = true then ((metric_Is.f k a0_0 a0_1 l0_2 a0_3 l0_4 a0_5).bind fun t463 => ((metric_Check.f a0_0 a0_1 l0_2 a0_3 l0_4 a0_5).bind fun t464 => (if t464 = 0 then ((metric_Equal.f k a0_0 a0_1 l0_2 a0_3 l0_4 a0_5 bt429.1 bt429.2.1 bt429.2.2.1 bt429.2.2.2.1 bt429.2.2.2.2.1 bt429.2.2.2.2.2.1).bind fun t465 => (if (t463 == t465) = true then ((forebaylaw07_awake.f k).bind fun t466 => (some t466)) else (none))) else (if (t463 == false) = true then ((forebaylaw07_awake.f k).bind fun t467 => (some t467)) else (none))))) else (none))) else (none))) else (none)) else (none))) else (none))) else (none)))) else ((metric_Check.f a0_0 a0_1 l0_2 a0_3 l0_4 a0_5).bind fun t441 => (if t441 = 0 then (none) else ((metric_Is.f k a0_0 a0_1 l0_2 a0_3 l0_4 a0_5).bind fun t442 => (if t442 = true then (none) else ((metric_Same.f k a0_0 a0_1 l0_2 a0_3 l0_4 a0_5 a0_0 a0_1 l0_2 a0_3 l0_4 a0_5).bind fun t443 => (if t443 = true then (none) else ((metric_Equal.f k bt429.1 bt429.2.1 bt429.2.2.1 bt429.2.2.2.1 bt429.2.2.2.2.1 bt429.2.2.2.2.2.1 (⟨#[]⟩ : ByteArray) 0 ([] : List (S40)) 0 ([] : List (S37)) 0).bind fun t444 => (if t444 = true then ((forebaylaw07_awake.f k).bind fun t445 => (some t445)) else (none))))))))))) else ((forebaylaw07_awake.f k).bind fun t428 => (some t428)))) = some r := h
 clear h
 replace H := Option.bind_eq_some_iff.mp H
 obtain ⟨t427, A20, H⟩ := H
 replace H : (if t427 = true then ((metric_Normal.f a0_0 a0_1 l0_2 a0_3 l0_4 a0_5).bind fun bt429 => (if bt429.2.2.2.2.2.2 = 0 then ((metric_Normal.f bt429.1 bt429.2.1 bt429.2.2.1 bt429.2.2.2.1 bt429.2.2.2.2.1 bt429.2.2.2.2.2.1).bind fun bt446 => ((metric_Check.f bt429.1 bt429.2.1 bt429.2.2.1 bt429.2.2.2.1 bt429.2.2.2.2.1 bt429.2.2.2.2.2.1).bind fun t458 => (if t458 = 0 then ((metric_Is.f k bt429.1 bt429.2.1 bt429.2.2.1 bt429.2.2.2.1 bt429.2.2.2.2.1 bt429.2.2.2.2.2.1).bind fun t459 => (if t459 = true then ((tag_Is.f k bt429.2.2.2.2.1).bind fun t460 => (if t460 = true then (if bt446.2.2.2.2.2.2 = 0 then ((metric_Equal.f k bt446.1 bt446.2.1 bt446.2.2.1 bt446.2.2.2.1 bt446.2.2.2.2.1 bt446.2.2.2.2.2.1 bt429.1 bt429.2.1 bt429.2.2.1 bt429.2.2.2.1 bt429.2.2.2.2.1 bt429.2.2.2.2.2.1).bind fun t461 => (if t461 = true then ((metric_Same.f k a0_0 a0_1 l0_2 a0_3 l0_4 a0_5 bt429.1 bt429.2.1 bt429.2.2.1 bt429.2.2.2.1 bt429.2.2.2.2.1 bt429.2.2.2.2.2.1).bind fun t462 => (if t462 = true then ((metric_Is.f k a0_0 a0_1 l0_2 a0_3 l0_4 a0_5).bind fun t463 => ((metric_Check.f a0_0 a0_1 l0_2 a0_3 l0_4 a0_5).bind fun t464 => (if t464 = 0 then ((metric_Equal.f k a0_0 a0_1 l0_2 a0_3 l0_4 a0_5 bt429.1 bt429.2.1 bt429.2.2.1 bt429.2.2.2.1 bt429.2.2.2.2.1 bt429.2.2.2.2.2.1).bind fun t465 => (if (t463 == t465) = true then ((forebaylaw07_awake.f k).bind fun t466 => (some t466)) else (none))) else (if (t463 == false) = true then ((forebaylaw07_awake.f k).bind fun t467 => (some t467)) else (none))))) else (none))) else (none))) else (none)) else (none))) else (none))) else (none)))) else ((metric_Check.f a0_0 a0_1 l0_2 a0_3 l0_4 a0_5).bind fun t441 => (if t441 = 0 then (none) else ((metric_Is.f k a0_0 a0_1 l0_2 a0_3 l0_4 a0_5).bind fun t442 => (if t442 = true then (none) else ((metric_Same.f k a0_0 a0_1 l0_2 a0_3 l0_4 a0_5 a0_0 a0_1 l0_2 a0_3 l0_4 a0_5).bind fun t443 => (if t443 = true then (none) else ((metric_Equal.f k bt429.1 bt429.2.1 bt429.2.2.1 bt429.2.2.2.1 bt429.2.2.2.2.1 bt429.2.2.2.2.2.1 (⟨#[]⟩ : ByteArray) 0 ([] : List (S40)) 0 ([] : List (S37)) 0).bind fun t444 => (if t444 = true then ((forebaylaw07_awake.f k).bind fun t445 => (some t445)) else (none))))))))))) else ((forebaylaw07_awake.f k).bind fun t428 => (some t428))) = some r := H
 have A2 := Aside0.mk A20
 clear A20
 by_cases c3 : t427 = true
 ·subst c3
  have H1 : ((metric_Normal.f a0_0 a0_1 l0_2 a0_3 l0_4 a0_5).bind fun bt429 => (if bt429.2.2.2.2.2.2 = 0 then ((metric_Normal.f bt429.1 bt429.2.1 bt429.2.2.1 bt429.2.2.2.1 bt429.2.2.2.2.1 bt429.2.2.2.2.2.1).bind fun bt446 => ((metric_Check.f bt429.1 bt429.2.1 bt429.2.2.1 bt429.2.2.2.1 bt429.2.2.2.2.1 bt429.2.2.2.2.2.1).bind fun t458 => (if t458 = 0 then ((metric_Is.f k bt429.1 bt429.2.1 bt429.2.2.1 bt429.2.2.2.1 bt429.2.2.2.2.1 bt429.2.2.2.2.2.1).bind fun t459 => (if t459 = true then ((tag_Is.f k bt429.2.2.2.2.1).bind fun t460 => (if t460 = true then (if bt446.2.2.2.2.2.2 = 0 then ((metric_Equal.f k bt446.1 bt446.2.1 bt446.2.2.1 bt446.2.2.2.1 bt446.2.2.2.2.1 bt446.2.2.2.2.2.1 bt429.1 bt429.2.1 bt429.2.2.1 bt429.2.2.2.1 bt429.2.2.2.2.1 bt429.2.2.2.2.2.1).bind fun t461 => (if t461 = true then ((metric_Same.f k a0_0 a0_1 l0_2 a0_3 l0_4 a0_5 bt429.1 bt429.2.1 bt429.2.2.1 bt429.2.2.2.1 bt429.2.2.2.2.1 bt429.2.2.2.2.2.1).bind fun t462 => (if t462 = true then ((metric_Is.f k a0_0 a0_1 l0_2 a0_3 l0_4 a0_5).bind fun t463 => ((metric_Check.f a0_0 a0_1 l0_2 a0_3 l0_4 a0_5).bind fun t464 => (if t464 = 0 then ((metric_Equal.f k a0_0 a0_1 l0_2 a0_3 l0_4 a0_5 bt429.1 bt429.2.1 bt429.2.2.1 bt429.2.2.2.1 bt429.2.2.2.2.1 bt429.2.2.2.2.2.1).bind fun t465 => (if (t463 == t465) = true then ((forebaylaw07_awake.f k).bind fun t466 => (some t466)) else (none))) else (if (t463 == false) = true then ((forebaylaw07_awake.f k).bind fun t467 => (some t467)) else (none))))) else (none))) else (none))) else (none)) else (none))) else (none))) else (none)))) else ((metric_Check.f a0_0 a0_1 l0_2 a0_3 l0_4 a0_5).bind fun t441 => (if t441 = 0 then (none) else ((metric_Is.f k a0_0 a0_1 l0_2 a0_3 l0_4 a0_5).bind fun t442 => (if t442 = true then (none) else ((metric_Same.f k a0_0 a0_1 l0_2 a0_3 l0_4 a0_5 a0_0 a0_1 l0_2 a0_3 l0_4 a0_5).bind fun t443 => (if t443 = true then (none) else ((metric_Equal.f k bt429.1 bt429.2.1 bt429.2.2.1 bt429.2.2.2.1 bt429.2.2.2.2.1 bt429.2.2.2.2.2.1 (⟨#[]⟩ : ByteArray) 0 ([] : List (S40)) 0 ([] : List (S37)) 0).bind fun t444 => (if t444 = true then ((forebaylaw07_awake.f k).bind fun t445 => (some t445)) else (none))))))))))) = some r := by rw [if_pos rfl] at H; exact H
  clear H
  have H := H1
  clear H1
  replace H := Option.bind_eq_some_iff.mp H
  obtain ⟨⟨t429, t430, t431, t434, t435, t438, t439⟩, A40, H⟩ := H
  replace H : (if t439 = 0 then ((metric_Normal.f t429 t430 t431 t434 t435 t438).bind fun bt446 => ((metric_Check.f t429 t430 t431 t434 t435 t438).bind fun t458 => (if t458 = 0 then ((metric_Is.f k t429 t430 t431 t434 t435 t438).bind fun t459 => (if t459 = true then ((tag_Is.f k t435).bind fun t460 => (if t460 = true then (if bt446.2.2.2.2.2.2 = 0 then ((metric_Equal.f k bt446.1 bt446.2.1 bt446.2.2.1 bt446.2.2.2.1 bt446.2.2.2.2.1 bt446.2.2.2.2.2.1 t429 t430 t431 t434 t435 t438).bind fun t461 => (if t461 = true then ((metric_Same.f k a0_0 a0_1 l0_2 a0_3 l0_4 a0_5 t429 t430 t431 t434 t435 t438).bind fun t462 => (if t462 = true then ((metric_Is.f k a0_0 a0_1 l0_2 a0_3 l0_4 a0_5).bind fun t463 => ((metric_Check.f a0_0 a0_1 l0_2 a0_3 l0_4 a0_5).bind fun t464 => (if t464 = 0 then ((metric_Equal.f k a0_0 a0_1 l0_2 a0_3 l0_4 a0_5 t429 t430 t431 t434 t435 t438).bind fun t465 => (if (t463 == t465) = true then ((forebaylaw07_awake.f k).bind fun t466 => (some t466)) else (none))) else (if (t463 == false) = true then ((forebaylaw07_awake.f k).bind fun t467 => (some t467)) else (none))))) else (none))) else (none))) else (none)) else (none))) else (none))) else (none)))) else ((metric_Check.f a0_0 a0_1 l0_2 a0_3 l0_4 a0_5).bind fun t441 => (if t441 = 0 then (none) else ((metric_Is.f k a0_0 a0_1 l0_2 a0_3 l0_4 a0_5).bind fun t442 => (if t442 = true then (none) else ((metric_Same.f k a0_0 a0_1 l0_2 a0_3 l0_4 a0_5 a0_0 a0_1 l0_2 a0_3 l0_4 a0_5).bind fun t443 => (if t443 = true then (none) else ((metric_Equal.f k t429 t430 t431 t434 t435 t438 (⟨#[]⟩ : ByteArray) 0 ([] : List (S40)) 0 ([] : List (S37)) 0).bind fun t444 => (if t444 = true then ((forebaylaw07_awake.f k).bind fun t445 => (some t445)) else (none)))))))))) = some r := H
  have A4 := Aside0.mk A40
  clear A40
  by_cases c5 : t439 = 0
  ·rw [if_pos c5] at H
   have c5b0 : (t439 == 0) = true := beq_iff_eq.mpr c5
   have c5b1 : (t439 != 0) = false := bne_eq_false_iff_eq.mpr c5
   clear c5
   replace H := Option.bind_eq_some_iff.mp H
   obtain ⟨⟨t446, t447, t448, t451, t452, t455, t456⟩, A60, H⟩ := H
   replace H : ((metric_Check.f t429 t430 t431 t434 t435 t438).bind fun t458 => (if t458 = 0 then ((metric_Is.f k t429 t430 t431 t434 t435 t438).bind fun t459 => (if t459 = true then ((tag_Is.f k t435).bind fun t460 => (if t460 = true then (if t456 = 0 then ((metric_Equal.f k t446 t447 t448 t451 t452 t455 t429 t430 t431 t434 t435 t438).bind fun t461 => (if t461 = true then ((metric_Same.f k a0_0 a0_1 l0_2 a0_3 l0_4 a0_5 t429 t430 t431 t434 t435 t438).bind fun t462 => (if t462 = true then ((metric_Is.f k a0_0 a0_1 l0_2 a0_3 l0_4 a0_5).bind fun t463 => ((metric_Check.f a0_0 a0_1 l0_2 a0_3 l0_4 a0_5).bind fun t464 => (if t464 = 0 then ((metric_Equal.f k a0_0 a0_1 l0_2 a0_3 l0_4 a0_5 t429 t430 t431 t434 t435 t438).bind fun t465 => (if (t463 == t465) = true then ((forebaylaw07_awake.f k).bind fun t466 => (some t466)) else (none))) else (if (t463 == false) = true then ((forebaylaw07_awake.f k).bind fun t467 => (some t467)) else (none))))) else (none))) else (none))) else (none)) else (none))) else (none))) else (none))) = some r := H
   have A6 := Aside0.mk A60
   clear A60
   replace H := Option.bind_eq_some_iff.mp H
   obtain ⟨t458, A70, H⟩ := H
   replace H : (if t458 = 0 then ((metric_Is.f k t429 t430 t431 t434 t435 t438).bind fun t459 => (if t459 = true then ((tag_Is.f k t435).bind fun t460 => (if t460 = true then (if t456 = 0 then ((metric_Equal.f k t446 t447 t448 t451 t452 t455 t429 t430 t431 t434 t435 t438).bind fun t461 => (if t461 = true then ((metric_Same.f k a0_0 a0_1 l0_2 a0_3 l0_4 a0_5 t429 t430 t431 t434 t435 t438).bind fun t462 => (if t462 = true then ((metric_Is.f k a0_0 a0_1 l0_2 a0_3 l0_4 a0_5).bind fun t463 => ((metric_Check.f a0_0 a0_1 l0_2 a0_3 l0_4 a0_5).bind fun t464 => (if t464 = 0 then ((metric_Equal.f k a0_0 a0_1 l0_2 a0_3 l0_4 a0_5 t429 t430 t431 t434 t435 t438).bind fun t465 => (if (t463 == t465) = true then ((forebaylaw07_awake.f k).bind fun t466 => (some t466)) else (none))) else (if (t463 == false) = true then ((forebaylaw07_awake.f k).bind fun t467 => (some t467)) else (none))))) else (none))) else (none))) else (none)) else (none))) else (none))) else (none)) = some r := H
   have A7 := Aside0.mk A70
   clear A70
   by_cases c8 : t458 = 0
   ·rw [if_pos c8] at H
    have c8b0 : (t458 == 0) = true := beq_iff_eq.mpr c8
    have c8b1 : (t458 != 0) = false := bne_eq_false_iff_eq.mpr c8
    clear c8
    replace H := Option.bind_eq_some_iff.mp H
    obtain ⟨t459, A90, H⟩ := H
    replace H : (if t459 = true then ((tag_Is.f k t435).bind fun t460 => (if t460 = true then (if t456 = 0 then ((metric_Equal.f k t446 t447 t448 t451 t452 t455 t429 t430 t431 t434 t435 t438).bind fun t461 => (if t461 = true then ((metric_Same.f k a0_0 a0_1 l0_2 a0_3 l0_4 a0_5 t429 t430 t431 t434 t435 t438).bind fun t462 => (if t462 = true then ((metric_Is.f k a0_0 a0_1 l0_2 a0_3 l0_4 a0_5).bind fun t463 => ((metric_Check.f a0_0 a0_1 l0_2 a0_3 l0_4 a0_5).bind fun t464 => (if t464 = 0 then ((metric_Equal.f k a0_0 a0_1 l0_2 a0_3 l0_4 a0_5 t429 t430 t431 t434 t435 t438).bind fun t465 => (if (t463 == t465) = true then ((forebaylaw07_awake.f k).bind fun t466 => (some t466)) else (none))) else (if (t463 == false) = true then ((forebaylaw07_awake.f k).bind fun t467 => (some t467)) else (none))))) else (none))) else (none))) else (none)) else (none))) else (none)) = some r := H
    have A9 := Aside0.mk A90
    clear A90
    by_cases c10 : t459 = true
    ·subst c10
     have H1 : ((tag_Is.f k t435).bind fun t460 => (if t460 = true then (if t456 = 0 then ((metric_Equal.f k t446 t447 t448 t451 t452 t455 t429 t430 t431 t434 t435 t438).bind fun t461 => (if t461 = true then ((metric_Same.f k a0_0 a0_1 l0_2 a0_3 l0_4 a0_5 t429 t430 t431 t434 t435 t438).bind fun t462 => (if t462 = true then ((metric_Is.f k a0_0 a0_1 l0_2 a0_3 l0_4 a0_5).bind fun t463 => ((metric_Check.f a0_0 a0_1 l0_2 a0_3 l0_4 a0_5).bind fun t464 => (if t464 = 0 then ((metric_Equal.f k a0_0 a0_1 l0_2 a0_3 l0_4 a0_5 t429 t430 t431 t434 t435 t438).bind fun t465 => (if (t463 == t465) = true then ((forebaylaw07_awake.f k).bind fun t466 => (some t466)) else (none))) else (if (t463 == false) = true then ((forebaylaw07_awake.f k).bind fun t467 => (some t467)) else (none))))) else (none))) else (none))) else (none)) else (none))) = some r := by rw [if_pos rfl] at H; exact H
     clear H
     have H := H1
     clear H1
     replace H := Option.bind_eq_some_iff.mp H
     obtain ⟨t460, A110, H⟩ := H
     replace H : (if t460 = true then (if t456 = 0 then ((metric_Equal.f k t446 t447 t448 t451 t452 t455 t429 t430 t431 t434 t435 t438).bind fun t461 => (if t461 = true then ((metric_Same.f k a0_0 a0_1 l0_2 a0_3 l0_4 a0_5 t429 t430 t431 t434 t435 t438).bind fun t462 => (if t462 = true then ((metric_Is.f k a0_0 a0_1 l0_2 a0_3 l0_4 a0_5).bind fun t463 => ((metric_Check.f a0_0 a0_1 l0_2 a0_3 l0_4 a0_5).bind fun t464 => (if t464 = 0 then ((metric_Equal.f k a0_0 a0_1 l0_2 a0_3 l0_4 a0_5 t429 t430 t431 t434 t435 t438).bind fun t465 => (if (t463 == t465) = true then ((forebaylaw07_awake.f k).bind fun t466 => (some t466)) else (none))) else (if (t463 == false) = true then ((forebaylaw07_awake.f k).bind fun t467 => (some t467)) else (none))))) else (none))) else (none))) else (none)) else (none)) = some r := H
     have A11 := Aside0.mk A110
     clear A110
     by_cases c12 : t460 = true
     ·subst c12
      have H1 : (if t456 = 0 then ((metric_Equal.f k t446 t447 t448 t451 t452 t455 t429 t430 t431 t434 t435 t438).bind fun t461 => (if t461 = true then ((metric_Same.f k a0_0 a0_1 l0_2 a0_3 l0_4 a0_5 t429 t430 t431 t434 t435 t438).bind fun t462 => (if t462 = true then ((metric_Is.f k a0_0 a0_1 l0_2 a0_3 l0_4 a0_5).bind fun t463 => ((metric_Check.f a0_0 a0_1 l0_2 a0_3 l0_4 a0_5).bind fun t464 => (if t464 = 0 then ((metric_Equal.f k a0_0 a0_1 l0_2 a0_3 l0_4 a0_5 t429 t430 t431 t434 t435 t438).bind fun t465 => (if (t463 == t465) = true then ((forebaylaw07_awake.f k).bind fun t466 => (some t466)) else (none))) else (if (t463 == false) = true then ((forebaylaw07_awake.f k).bind fun t467 => (some t467)) else (none))))) else (none))) else (none))) else (none)) = some r := by rw [if_pos rfl] at H; exact H
      clear H
      have H := H1
      clear H1
      by_cases c13 : t456 = 0
      ·rw [if_pos c13] at H
       have c13b0 : (t456 == 0) = true := beq_iff_eq.mpr c13
       have c13b1 : (t456 != 0) = false := bne_eq_false_iff_eq.mpr c13
       clear c13
       replace H := Option.bind_eq_some_iff.mp H
       obtain ⟨t461, A140, H⟩ := H
       replace H : (if t461 = true then ((metric_Same.f k a0_0 a0_1 l0_2 a0_3 l0_4 a0_5 t429 t430 t431 t434 t435 t438).bind fun t462 => (if t462 = true then ((metric_Is.f k a0_0 a0_1 l0_2 a0_3 l0_4 a0_5).bind fun t463 => ((metric_Check.f a0_0 a0_1 l0_2 a0_3 l0_4 a0_5).bind fun t464 => (if t464 = 0 then ((metric_Equal.f k a0_0 a0_1 l0_2 a0_3 l0_4 a0_5 t429 t430 t431 t434 t435 t438).bind fun t465 => (if (t463 == t465) = true then ((forebaylaw07_awake.f k).bind fun t466 => (some t466)) else (none))) else (if (t463 == false) = true then ((forebaylaw07_awake.f k).bind fun t467 => (some t467)) else (none))))) else (none))) else (none)) = some r := H
       have A14 := Aside0.mk A140
       clear A140
       by_cases c15 : t461 = true
       ·subst c15
        have H1 : ((metric_Same.f k a0_0 a0_1 l0_2 a0_3 l0_4 a0_5 t429 t430 t431 t434 t435 t438).bind fun t462 => (if t462 = true then ((metric_Is.f k a0_0 a0_1 l0_2 a0_3 l0_4 a0_5).bind fun t463 => ((metric_Check.f a0_0 a0_1 l0_2 a0_3 l0_4 a0_5).bind fun t464 => (if t464 = 0 then ((metric_Equal.f k a0_0 a0_1 l0_2 a0_3 l0_4 a0_5 t429 t430 t431 t434 t435 t438).bind fun t465 => (if (t463 == t465) = true then ((forebaylaw07_awake.f k).bind fun t466 => (some t466)) else (none))) else (if (t463 == false) = true then ((forebaylaw07_awake.f k).bind fun t467 => (some t467)) else (none))))) else (none))) = some r := by rw [if_pos rfl] at H; exact H
        clear H
        have H := H1
        clear H1
        replace H := Option.bind_eq_some_iff.mp H
        obtain ⟨t462, A160, H⟩ := H
        replace H : (if t462 = true then ((metric_Is.f k a0_0 a0_1 l0_2 a0_3 l0_4 a0_5).bind fun t463 => ((metric_Check.f a0_0 a0_1 l0_2 a0_3 l0_4 a0_5).bind fun t464 => (if t464 = 0 then ((metric_Equal.f k a0_0 a0_1 l0_2 a0_3 l0_4 a0_5 t429 t430 t431 t434 t435 t438).bind fun t465 => (if (t463 == t465) = true then ((forebaylaw07_awake.f k).bind fun t466 => (some t466)) else (none))) else (if (t463 == false) = true then ((forebaylaw07_awake.f k).bind fun t467 => (some t467)) else (none))))) else (none)) = some r := H
        have A16 := Aside0.mk A160
        clear A160
        by_cases c17 : t462 = true
        ·subst c17
         have H1 : ((metric_Is.f k a0_0 a0_1 l0_2 a0_3 l0_4 a0_5).bind fun t463 => ((metric_Check.f a0_0 a0_1 l0_2 a0_3 l0_4 a0_5).bind fun t464 => (if t464 = 0 then ((metric_Equal.f k a0_0 a0_1 l0_2 a0_3 l0_4 a0_5 t429 t430 t431 t434 t435 t438).bind fun t465 => (if (t463 == t465) = true then ((forebaylaw07_awake.f k).bind fun t466 => (some t466)) else (none))) else (if (t463 == false) = true then ((forebaylaw07_awake.f k).bind fun t467 => (some t467)) else (none))))) = some r := by rw [if_pos rfl] at H; exact H
         clear H
         have H := H1
         clear H1
         replace H := Option.bind_eq_some_iff.mp H
         obtain ⟨t463, A180, H⟩ := H
         replace H : ((metric_Check.f a0_0 a0_1 l0_2 a0_3 l0_4 a0_5).bind fun t464 => (if t464 = 0 then ((metric_Equal.f k a0_0 a0_1 l0_2 a0_3 l0_4 a0_5 t429 t430 t431 t434 t435 t438).bind fun t465 => (if (t463 == t465) = true then ((forebaylaw07_awake.f k).bind fun t466 => (some t466)) else (none))) else (if (t463 == false) = true then ((forebaylaw07_awake.f k).bind fun t467 => (some t467)) else (none)))) = some r := H
         have A18 := Aside0.mk A180
         clear A180
         replace H := Option.bind_eq_some_iff.mp H
         obtain ⟨t464, A190, H⟩ := H
         replace H : (if t464 = 0 then ((metric_Equal.f k a0_0 a0_1 l0_2 a0_3 l0_4 a0_5 t429 t430 t431 t434 t435 t438).bind fun t465 => (if (t463 == t465) = true then ((forebaylaw07_awake.f k).bind fun t466 => (some t466)) else (none))) else (if (t463 == false) = true then ((forebaylaw07_awake.f k).bind fun t467 => (some t467)) else (none))) = some r := H
         have A19 := Aside0.mk A190
         clear A190
         by_cases c20 : t464 = 0
         ·rw [if_pos c20] at H
          have c20b0 : (t464 == 0) = true := beq_iff_eq.mpr c20
          have c20b1 : (t464 != 0) = false := bne_eq_false_iff_eq.mpr c20
          clear c20
          replace H := Option.bind_eq_some_iff.mp H
          obtain ⟨t465, A210, H⟩ := H
          replace H : (if (t463 == t465) = true then ((forebaylaw07_awake.f k).bind fun t466 => (some t466)) else (none)) = some r := H
          have A21 := Aside0.mk A210
          clear A210
          by_cases c22 : (t463 == t465) = true
          ·rw [if_pos c22] at H
           have c22b0 : (t463 == t465) = true := c22
           (try (have c22b1 : decide (t463 = t465) = true := by simpa using c22))
           (try (have c22b2 : (t463 == t465) = true := by simpa using c22))
           clear c22
           replace H := Option.bind_eq_some_iff.mp H
           obtain ⟨t466, A230, H⟩ := H
           replace H : (some t466) = some r := H
           have A23 := Aside0.mk A230
           clear A230
           obtain rfl := Option.some.inj H
           go_enter Try.func8, Try.ntmps8
           try go_wp2_with (first | ((with_reducible refine gate_dst (N := 1) rfl ?_); refine box_event ?hg (N := 1) ?hd (cs := #[.string a0_0, .int .i64 a0_1, .slice A0_2 l0_2.length c0_2, .int .i64 a0_3, .slice A0_4 l0_4.length c0_4, .int .i64 a0_5]) (t := 25) ?hr ?_; (case hd => rfl); (case hg => rfl); (case hr => first | (go_simp; done) | (go_simp; rfl)); intro gb426 hg w24 hbox hb; have n0_ := Aside0.mk (below_step (by repeat (first | (with_reducible first | exact HB.out | apply below_alloc | apply pw_below_drewN | apply below_drew1) | exact HB.out)) hb); have n1_ := Aside0.mk (hbox); have n2_ := Aside0.mk ((by rw [hg]; exact (below_size (by repeat (first | (with_reducible first | exact HB.out | apply below_alloc | apply pw_below_drewN | apply below_drew1) | exact HB.out))) : w.heap.size ≤ gb426)); have n3_ := Aside0.mk ((by rw [hg]; exact (below_size (by repeat (first | (with_reducible first | exact HB.out | apply below_alloc | apply pw_below_drewN | apply below_drew1) | exact HB.out))) : w.heap.size ≤ gb426)); clear HB; have HB := n0_; have BK426 := n1_; have GW426 := n2_; have GE426 := n3_; clear n0_ n1_ n2_ n3_; clear hb hbox hg; have hcz25_0 : w24.cell? ⟨gb426, 0, none⟩ = some (.string a0_0) := (blk_cell BK426.out 0).trans rfl; have hcz25_1 : w24.cell? ⟨gb426, 1, none⟩ = some (.int .i64 a0_1) := (blk_cell BK426.out 1).trans rfl; have hcz25_2 : w24.cell? ⟨gb426, 2, none⟩ = some (.slice A0_2 l0_2.length c0_2) := (blk_cell BK426.out 2).trans rfl; have hcz25_3 : w24.cell? ⟨gb426, 3, none⟩ = some (.int .i64 a0_3) := (blk_cell BK426.out 3).trans rfl; have hcz25_4 : w24.cell? ⟨gb426, 4, none⟩ = some (.slice A0_4 l0_4.length c0_4) := (blk_cell BK426.out 4).trans rfl; have hcz25_5 : w24.cell? ⟨gb426, 5, none⟩ = some (.int .i64 a0_5) := (blk_cell BK426.out 5).trans rfl; have hfz25_0 := blk_frozen BK426.out 0; have hfz25_1 := blk_frozen BK426.out 1; have hfz25_2 := blk_frozen BK426.out 2; have hfz25_3 := blk_frozen BK426.out 3; have hfz25_4 := blk_frozen BK426.out 4; have hfz25_5 := blk_frozen BK426.out 5) | ((with_reducible refine gate_callee (f := 14) rfl ?_); refine goesL_ (some 8) rfl rfl Try.func14 (by kernel_rfl) rfl #[.agg #[.string a0_0, .int .i64 a0_1, .slice A0_2 l0_2.length c0_2, .int .i64 a0_3, .slice A0_4 l0_4.length c0_4, .int .i64 a0_5]] rfl (by (try simp only [List.map_toArray, List.map_cons, List.map_nil]); first | done | rfl | (simp only [List.length_drop, List.length_take]; rfl)) ?_; (with_reducible refine (forebaylaw07_Few.calls k a0_0 a0_1 _ _ l0_2 a0_3 _ _ l0_4 a0_5 true _ ?side1 ?side2 ?side3 ?side4 A2.out).mono ?_); (case side1 => repeat (first | exact (Kd.C_below HR0_2.out HB.out) | (with_reducible refine Kd.C_alloc ?_ _) | (with_reducible refine Kd.C_drewN ?_ _) | (with_reducible refine Kd.C_drew ?_))); (case side2 => exact HC0_2.out); (case side3 => repeat (first | exact (Kd.C_below HR0_4.out HB.out) | (with_reducible refine Kd.C_alloc ?_ _) | (with_reducible refine Kd.C_drewN ?_ _) | (with_reducible refine Kd.C_drew ?_))); (case side4 => exact HC0_4.out); rintro e w26 ⟨rfl, hb⟩; refine ⟨_, rfl, ?_⟩; have n0_ := Aside0.mk (blk_below (g := gb426) (o := .cells #[.string a0_0, .int .i64 a0_1, .slice A0_2 l0_2.length c0_2, .int .i64 a0_3, .slice A0_4 l0_4.length c0_4, .int .i64 a0_5] 25 (0, 0)) (by (with_reducible repeat (first | refine blk_drewN ?_ _ | refine blk_drew ?_ | refine blk_alloc ?_ _)); exact BK426.out) hb); have n1_ := Aside0.mk (below_step (by repeat (first | (with_reducible first | exact HB.out | apply below_alloc | apply pw_below_drewN | apply below_drew1 | refine below_set ?_ GE426.out) | exact HB.out)) hb); clear BK426; clear HB; have BK426 := n0_; have HB := n1_; clear n0_ n1_; (try clear hb); (try clear hb2); (try clear hk); (try clear hi); have hcz27_0 : w26.cell? ⟨gb426, 0, none⟩ = some (.string a0_0) := (blk_cell BK426.out 0).trans rfl; have hcz27_1 : w26.cell? ⟨gb426, 1, none⟩ = some (.int .i64 a0_1) := (blk_cell BK426.out 1).trans rfl; have hcz27_2 : w26.cell? ⟨gb426, 2, none⟩ = some (.slice A0_2 l0_2.length c0_2) := (blk_cell BK426.out 2).trans rfl; have hcz27_3 : w26.cell? ⟨gb426, 3, none⟩ = some (.int .i64 a0_3) := (blk_cell BK426.out 3).trans rfl; have hcz27_4 : w26.cell? ⟨gb426, 4, none⟩ = some (.slice A0_4 l0_4.length c0_4) := (blk_cell BK426.out 4).trans rfl; have hcz27_5 : w26.cell? ⟨gb426, 5, none⟩ = some (.int .i64 a0_5) := (blk_cell BK426.out 5).trans rfl; have hfz27_0 := blk_frozen BK426.out 0; have hfz27_1 := blk_frozen BK426.out 1; have hfz27_2 := blk_frozen BK426.out 2; have hfz27_3 := blk_frozen BK426.out 3; have hfz27_4 := blk_frozen BK426.out 4; have hfz27_5 := blk_frozen BK426.out 5) | ((with_reducible refine gate_callee (f := 18) rfl ?_); refine goesL_ (some 13) rfl rfl Try.func18 (by kernel_rfl) rfl #[.agg #[.string a0_0, .int .i64 a0_1, .slice A0_2 l0_2.length c0_2, .int .i64 a0_3, .slice A0_4 l0_4.length c0_4, .int .i64 a0_5]] rfl (by (try simp only [List.map_toArray, List.map_cons, List.map_nil]); first | done | rfl | (simp only [List.length_drop, List.length_take]; rfl)) ?_; (with_reducible refine (metric_Normal.calls a0_0 a0_1 _ _ l0_2 a0_3 _ _ l0_4 a0_5 t429 t430 t431 t434 t435 t438 t439 _ ?side1 ?side2 ?side3 ?side4 A4.out).mono ?_); (case side1 => repeat (first | exact (Kd.C_below HR0_2.out HB.out) | (with_reducible refine Kd.C_alloc ?_ _) | (with_reducible refine Kd.C_drewN ?_ _) | (with_reducible refine Kd.C_drew ?_))); (case side2 => exact HC0_2.out); (case side3 => repeat (first | exact (Kd.C_below HR0_4.out HB.out) | (with_reducible refine Kd.C_alloc ?_ _) | (with_reducible refine Kd.C_drewN ?_ _) | (with_reducible refine Kd.C_drew ?_))); (case side4 => exact HC0_4.out); rintro e w28 ⟨v432, v436, rfl, ho0, ho1, hb⟩; refine ⟨_, rfl, ?_⟩; have n0_ := Aside0.mk (Kd.R_lower (Kd.R_mono (ok' := fun k_ => True) ho0 (fun _ hk_ => trivial)) (below_size (by repeat (first | (with_reducible first | exact HB.out | apply below_alloc | apply pw_below_drewN | apply below_drew1 | refine below_set ?_ GE426.out) | exact HB.out)))); have n1_ := Aside0.mk (Kd.V_lower (Kd.V_mono (ok' := fun k_ => some k_ ≠ (v432 : Value).ownBlock ∧ k_ ≠ gb426) ho1 (fun k_ hk_ => ⟨hk_.2, (Kd.freshB (g := gb426) (o := .cells #[.string a0_0, .int .i64 a0_1, .slice A0_2 l0_2.length c0_2, .int .i64 a0_3, .slice A0_4 l0_4.length c0_4, .int .i64 a0_5] 25 (0, 0)) (by (with_reducible repeat (first | refine blk_drewN ?_ _ | refine blk_drew ?_ | refine blk_alloc ?_ _)); exact BK426.out) k_ hk_.1)⟩)) (below_size (by repeat (first | (with_reducible first | exact HB.out | apply below_alloc | apply pw_below_drewN | apply below_drew1 | refine below_set ?_ GE426.out) | exact HB.out)))); have n2_ := Aside0.mk (blk_below (g := gb426) (o := .cells #[.string a0_0, .int .i64 a0_1, .slice A0_2 l0_2.length c0_2, .int .i64 a0_3, .slice A0_4 l0_4.length c0_4, .int .i64 a0_5] 25 (0, 0)) (by (with_reducible repeat (first | refine blk_drewN ?_ _ | refine blk_drew ?_ | refine blk_alloc ?_ _)); exact BK426.out) hb); have n3_ := Aside0.mk (below_step (by repeat (first | (with_reducible first | exact HB.out | apply below_alloc | apply pw_below_drewN | apply below_drew1 | refine below_set ?_ GE426.out) | exact HB.out)) hb); clear BK426; clear HB; have HO433 := n0_; have HO437 := n1_; have BK426 := n2_; have HB := n3_; clear n0_ n1_ n2_ n3_; (try clear hb); (try clear hb2); (try clear hk); (try clear hi); (try clear ho0); (try clear ho1)) | ((with_reducible refine gate_dst (N := 3) rfl ?_); refine box_event ?hg (N := 3) ?hd (cs := #[.string (⟨#[]⟩ : ByteArray), .int .i64 0, .slice none 0 0, .int .i64 0, .slice none 0 0, .int .i64 0]) (t := 25) ?hr ?_; (case hd => rfl); (case hg => rfl); (case hr => first | (go_simp; done) | (go_simp; rfl)); intro gb440 hg w29 hbox hb; have n0_ := Aside0.mk (Kd.R_below (by (with_reducible repeat (first | apply Kd.R_alloc | apply Kd.R_drewN | apply Kd.R_drew)); exact HO433.out) hb); have n1_ := Aside0.mk (Kd.V_below (Kd.V_elderB (by (with_reducible repeat (first | apply Kd.V_alloc | apply Kd.V_drewN | apply Kd.V_drew)); exact HO437.out) gb440 (Nat.le_of_eq hg.symm)) hb); have n2_ := Aside0.mk (blk_below (g := gb426) (o := .cells #[.string a0_0, .int .i64 a0_1, .slice A0_2 l0_2.length c0_2, .int .i64 a0_3, .slice A0_4 l0_4.length c0_4, .int .i64 a0_5] 25 (0, 0)) (by (with_reducible repeat (first | refine blk_drewN ?_ _ | refine blk_drew ?_ | refine blk_alloc ?_ _)); exact BK426.out) hb); have n3_ := Aside0.mk (below_step (by repeat (first | (with_reducible first | exact HB.out | apply below_alloc | apply pw_below_drewN | apply below_drew1 | refine below_set ?_ GE426.out) | exact HB.out)) hb); have n4_ := Aside0.mk (hbox); have n5_ := Aside0.mk ((by rw [hg]; exact (below_size (by repeat (first | (with_reducible first | exact HB.out | apply below_alloc | apply pw_below_drewN | apply below_drew1 | refine below_set ?_ GE426.out) | exact HB.out))) : w.heap.size ≤ gb440)); have n6_ := Aside0.mk ((by rw [hg]; exact (below_size (by repeat (first | (with_reducible first | exact HB.out | apply below_alloc | apply pw_below_drewN | apply below_drew1 | refine below_set ?_ GE426.out) | exact HB.out))) : w.heap.size ≤ gb440)); have n7_ := Aside0.mk ((by rw [hg]; exact Nat.ne_of_lt (blk_lt (g := gb426) (o := .cells #[.string a0_0, .int .i64 a0_1, .slice A0_2 l0_2.length c0_2, .int .i64 a0_3, .slice A0_4 l0_4.length c0_4, .int .i64 a0_5] 25 (0, 0)) (by (with_reducible repeat (first | refine blk_drewN ?_ _ | refine blk_drew ?_ | refine blk_alloc ?_ _)); exact BK426.out)) : gb426 ≠ gb440)); have n8_ := Aside0.mk ((by rw [hg]; exact Nat.ne_of_gt (blk_lt (g := gb426) (o := .cells #[.string a0_0, .int .i64 a0_1, .slice A0_2 l0_2.length c0_2, .int .i64 a0_3, .slice A0_4 l0_4.length c0_4, .int .i64 a0_5] 25 (0, 0)) (by (with_reducible repeat (first | refine blk_drewN ?_ _ | refine blk_drew ?_ | refine blk_alloc ?_ _)); exact BK426.out)) : gb440 ≠ gb426)); clear HO433; clear HO437; clear BK426; clear HB; have HO433 := n0_; have HO437 := n1_; have BK426 := n2_; have HB := n3_; have BK440 := n4_; have GW440 := n5_; have GE440 := n6_; have NB426_440 := n7_; have NB440_426 := n8_; clear n0_ n1_ n2_ n3_ n4_ n5_ n6_ n7_ n8_; clear hb hbox hg; have hnb30 := NB440_426.out; have hnc30 := NB426_440.out; have hcz31_0 : w29.cell? ⟨gb440, 0, none⟩ = some (.string (⟨#[]⟩ : ByteArray)) := (blk_cell BK440.out 0).trans rfl; have hcz31_1 : w29.cell? ⟨gb440, 1, none⟩ = some (.int .i64 0) := (blk_cell BK440.out 1).trans rfl; have hcz31_2 : w29.cell? ⟨gb440, 2, none⟩ = some (.slice none 0 0) := (blk_cell BK440.out 2).trans rfl; have hcz31_3 : w29.cell? ⟨gb440, 3, none⟩ = some (.int .i64 0) := (blk_cell BK440.out 3).trans rfl; have hcz31_4 : w29.cell? ⟨gb440, 4, none⟩ = some (.slice none 0 0) := (blk_cell BK440.out 4).trans rfl; have hcz31_5 : w29.cell? ⟨gb440, 5, none⟩ = some (.int .i64 0) := (blk_cell BK440.out 5).trans rfl; have hfz31_0 := blk_frozen BK440.out 0; have hfz31_1 := blk_frozen BK440.out 1; have hfz31_2 := blk_frozen BK440.out 2; have hfz31_3 := blk_frozen BK440.out 3; have hfz31_4 := blk_frozen BK440.out 4; have hfz31_5 := blk_frozen BK440.out 5; obtain ⟨Ao32, co32, eo32⟩ := Kd.R_slice HO433.out; subst eo32; obtain ⟨Ao33, co33, eo33⟩ := Kd.V_slice HO437.out; subst eo33) | ((with_reducible refine gate_callee (f := 18) rfl ?_); refine goesL_ (some 42) rfl rfl Try.func18 (by kernel_rfl) rfl #[.agg #[.string t429, .int .i64 t430, .slice Ao32 t431.length co32, .int .i64 t434, .slice Ao33 t435.length co33, .int .i64 t438]] rfl (by (try simp only [List.map_toArray, List.map_cons, List.map_nil]); first | done | rfl | (simp only [List.length_drop, List.length_take]; rfl)) ?_; (with_reducible refine (metric_Normal.calls t429 t430 _ _ t431 t434 _ _ t435 t438 t446 t447 t448 t451 t452 t455 t456 _ ?side1 ?side2 ?side3 ?side4 A6.out).mono ?_); (case side1 => refine (Kd.R_reads' (e := 40) (base := w.heap.size) (ok := fun k_ => True) (n := t431.length) (c := co32) ?_).2.2; exact (by (with_reducible repeat (first | apply Kd.R_alloc | apply Kd.R_drewN | apply Kd.R_drew)); exact (Kd.R_mono (Kd.R_far (p := ⟨gb440, 5, none⟩) (Kd.R_far (p := ⟨gb440, 4, none⟩) (Kd.R_far (p := ⟨gb440, 3, none⟩) (Kd.R_far (p := ⟨gb440, 2, none⟩) (Kd.R_far (p := ⟨gb440, 1, none⟩) (Kd.R_far (p := ⟨gb440, 0, none⟩) (Kd.R_types HO433.out BK440.out (by decide)) (fun _ hk => hk.2) (.string t429)) (fun _ hk => hk.2) (.int .i64 t430)) (fun _ hk => hk.2) (.slice Ao32 t431.length co32)) (fun _ hk => hk.2) (.int .i64 t434)) (fun _ hk => hk.2) (.slice Ao33 t435.length co33)) (fun _ hk => hk.2) (.int .i64 t438)) (fun _ h_ => h_.1)))); (case side2 => exact (Kd.R_reads' HO433.out).2.1); (case side3 => refine (Kd.V_reads' (e := 37) (base := w.heap.size) (ok := fun k_ => ((some k_ ≠ (.slice Ao32 t431.length co32 : Value).ownBlock ∧ k_ ≠ gb426) ∧ k_ ≠ gb440)) (n := t435.length) (c := co33) ?_).2.2; exact (by (with_reducible repeat (first | apply Kd.V_alloc | apply Kd.V_drewN | apply Kd.V_drew)); exact (Kd.V_mono (Kd.V_far (p := ⟨gb440, 5, none⟩) (Kd.V_far (p := ⟨gb440, 4, none⟩) (Kd.V_far (p := ⟨gb440, 3, none⟩) (Kd.V_far (p := ⟨gb440, 2, none⟩) (Kd.V_far (p := ⟨gb440, 1, none⟩) (Kd.V_far (p := ⟨gb440, 0, none⟩) (Kd.V_mono HO437.out (fun k_ hk => (⟨hk, hk.2⟩ : _ ∧ k_ ≠ gb440))) (fun _ hk => hk.2) (.string t429)) (fun _ hk => hk.2) (.int .i64 t430)) (fun _ hk => hk.2) (.slice Ao32 t431.length co32)) (fun _ hk => hk.2) (.int .i64 t434)) (fun _ hk => hk.2) (.slice Ao33 t435.length co33)) (fun _ hk => hk.2) (.int .i64 t438)) (fun _ h_ => h_.1)))); (case side4 => exact (Kd.V_reads' HO437.out).2.1); rintro e w34 ⟨v449, v453, rfl, ho0, ho1, hb⟩; refine ⟨_, rfl, ?_⟩; have n0_ := Aside0.mk (Kd.R_elder' (by (with_reducible repeat (first | apply Kd.R_alloc | apply Kd.R_drewN | apply Kd.R_drew)); exact (Kd.R_mono (Kd.R_far (p := ⟨gb440, 5, none⟩) (Kd.R_far (p := ⟨gb440, 4, none⟩) (Kd.R_far (p := ⟨gb440, 3, none⟩) (Kd.R_far (p := ⟨gb440, 2, none⟩) (Kd.R_far (p := ⟨gb440, 1, none⟩) (Kd.R_far (p := ⟨gb440, 0, none⟩) (Kd.R_types HO433.out BK440.out (by decide)) (fun _ hk => hk.2) (.string t429)) (fun _ hk => hk.2) (.int .i64 t430)) (fun _ hk => hk.2) (.slice Ao32 t431.length co32)) (fun _ hk => hk.2) (.int .i64 t434)) (fun _ hk => hk.2) (.slice Ao33 t435.length co33)) (fun _ hk => hk.2) (.int .i64 t438)) (fun _ h_ => h_.1))) (Kd.R_base ho0) hb); have n1_ := Aside0.mk (Kd.V_elder' (by (with_reducible repeat (first | apply Kd.V_alloc | apply Kd.V_drewN | apply Kd.V_drew)); exact (Kd.V_mono (Kd.V_far (p := ⟨gb440, 5, none⟩) (Kd.V_far (p := ⟨gb440, 4, none⟩) (Kd.V_far (p := ⟨gb440, 3, none⟩) (Kd.V_far (p := ⟨gb440, 2, none⟩) (Kd.V_far (p := ⟨gb440, 1, none⟩) (Kd.V_far (p := ⟨gb440, 0, none⟩) (Kd.V_mono HO437.out (fun k_ hk => (⟨hk, hk.2⟩ : _ ∧ k_ ≠ gb440))) (fun _ hk => hk.2) (.string t429)) (fun _ hk => hk.2) (.int .i64 t430)) (fun _ hk => hk.2) (.slice Ao32 t431.length co32)) (fun _ hk => hk.2) (.int .i64 t434)) (fun _ hk => hk.2) (.slice Ao33 t435.length co33)) (fun _ hk => hk.2) (.int .i64 t438)) (fun _ h_ => h_.1))) (Kd.R_base ho0) hb); have n2_ := Aside0.mk (Kd.R_lower (Kd.R_new' (Kd.R_mono (ok' := fun k_ => True) ho0 (fun _ hk_ => trivial)) (Kd.R_lt (by (with_reducible repeat (first | apply Kd.R_alloc | apply Kd.R_drewN | apply Kd.R_drew)); exact (Kd.R_mono (Kd.R_far (p := ⟨gb440, 5, none⟩) (Kd.R_far (p := ⟨gb440, 4, none⟩) (Kd.R_far (p := ⟨gb440, 3, none⟩) (Kd.R_far (p := ⟨gb440, 2, none⟩) (Kd.R_far (p := ⟨gb440, 1, none⟩) (Kd.R_far (p := ⟨gb440, 0, none⟩) (Kd.R_types HO433.out BK440.out (by decide)) (fun _ hk => hk.2) (.string t429)) (fun _ hk => hk.2) (.int .i64 t430)) (fun _ hk => hk.2) (.slice Ao32 t431.length co32)) (fun _ hk => hk.2) (.int .i64 t434)) (fun _ hk => hk.2) (.slice Ao33 t435.length co33)) (fun _ hk => hk.2) (.int .i64 t438)) (fun _ h_ => h_.1))))) (below_size (by repeat (first | (with_reducible first | exact HB.out | apply below_alloc | apply pw_below_drewN | apply below_drew1 | refine below_set ?_ GE426.out | refine below_set ?_ GE440.out) | exact HB.out)))); have n3_ := Aside0.mk (Kd.V_lower (Kd.V_mono (ok' := fun k_ => some k_ ≠ (v449 : Value).ownBlock ∧ some k_ ≠ (.slice Ao32 t431.length co32 : Value).ownBlock ∧ k_ ≠ gb426 ∧ k_ ≠ gb440) ho1 (fun k_ hk_ => ⟨hk_.2, (Kd.fresh' (Kd.R_lt (by (with_reducible repeat (first | apply Kd.R_alloc | apply Kd.R_drewN | apply Kd.R_drew)); exact (Kd.R_mono (Kd.R_far (p := ⟨gb440, 5, none⟩) (Kd.R_far (p := ⟨gb440, 4, none⟩) (Kd.R_far (p := ⟨gb440, 3, none⟩) (Kd.R_far (p := ⟨gb440, 2, none⟩) (Kd.R_far (p := ⟨gb440, 1, none⟩) (Kd.R_far (p := ⟨gb440, 0, none⟩) (Kd.R_types HO433.out BK440.out (by decide)) (fun _ hk => hk.2) (.string t429)) (fun _ hk => hk.2) (.int .i64 t430)) (fun _ hk => hk.2) (.slice Ao32 t431.length co32)) (fun _ hk => hk.2) (.int .i64 t434)) (fun _ hk => hk.2) (.slice Ao33 t435.length co33)) (fun _ hk => hk.2) (.int .i64 t438)) (fun _ h_ => h_.1)))) k_ hk_.1), (Kd.freshB (g := gb426) (o := .cells #[.string a0_0, .int .i64 a0_1, .slice A0_2 l0_2.length c0_2, .int .i64 a0_3, .slice A0_4 l0_4.length c0_4, .int .i64 a0_5] 25 (0, 0)) (by (with_reducible repeat (first | refine blk_drewN ?_ _ | refine blk_drew ?_ | refine blk_alloc ?_ _)); refine blk_far ?_ NB426_440.out _; (with_reducible repeat (first | refine blk_drewN ?_ _ | refine blk_drew ?_ | refine blk_alloc ?_ _)); refine blk_far ?_ NB426_440.out _; (with_reducible repeat (first | refine blk_drewN ?_ _ | refine blk_drew ?_ | refine blk_alloc ?_ _)); refine blk_far ?_ NB426_440.out _; (with_reducible repeat (first | refine blk_drewN ?_ _ | refine blk_drew ?_ | refine blk_alloc ?_ _)); refine blk_far ?_ NB426_440.out _; (with_reducible repeat (first | refine blk_drewN ?_ _ | refine blk_drew ?_ | refine blk_alloc ?_ _)); refine blk_far ?_ NB426_440.out _; (with_reducible repeat (first | refine blk_drewN ?_ _ | refine blk_drew ?_ | refine blk_alloc ?_ _)); refine blk_far ?_ NB426_440.out _; (with_reducible repeat (first | refine blk_drewN ?_ _ | refine blk_drew ?_ | refine blk_alloc ?_ _)); exact BK426.out) k_ hk_.1), (Kd.freshB (g := gb440) (o := .cells #[.string t429, .int .i64 t430, .slice Ao32 t431.length co32, .int .i64 t434, .slice Ao33 t435.length co33, .int .i64 t438] 25 (0, 0)) (by (with_reducible repeat (first | refine blk_drewN ?_ _ | refine blk_drew ?_ | refine blk_alloc ?_ _)); refine blk_put (cs := #[.string t429, .int .i64 t430, .slice Ao32 t431.length co32, .int .i64 t434, .slice Ao33 t435.length co33, .int .i64 0]) ?_ 5 _ rfl; (with_reducible repeat (first | refine blk_drewN ?_ _ | refine blk_drew ?_ | refine blk_alloc ?_ _)); refine blk_put (cs := #[.string t429, .int .i64 t430, .slice Ao32 t431.length co32, .int .i64 t434, .slice none 0 0, .int .i64 0]) ?_ 4 _ rfl; (with_reducible repeat (first | refine blk_drewN ?_ _ | refine blk_drew ?_ | refine blk_alloc ?_ _)); refine blk_put (cs := #[.string t429, .int .i64 t430, .slice Ao32 t431.length co32, .int .i64 0, .slice none 0 0, .int .i64 0]) ?_ 3 _ rfl; (with_reducible repeat (first | refine blk_drewN ?_ _ | refine blk_drew ?_ | refine blk_alloc ?_ _)); refine blk_put (cs := #[.string t429, .int .i64 t430, .slice none 0 0, .int .i64 0, .slice none 0 0, .int .i64 0]) ?_ 2 _ rfl; (with_reducible repeat (first | refine blk_drewN ?_ _ | refine blk_drew ?_ | refine blk_alloc ?_ _)); refine blk_put (cs := #[.string t429, .int .i64 0, .slice none 0 0, .int .i64 0, .slice none 0 0, .int .i64 0]) ?_ 1 _ rfl; (with_reducible repeat (first | refine blk_drewN ?_ _ | refine blk_drew ?_ | refine blk_alloc ?_ _)); refine blk_put (cs := #[.string (⟨#[]⟩ : ByteArray), .int .i64 0, .slice none 0 0, .int .i64 0, .slice none 0 0, .int .i64 0]) ?_ 0 _ rfl; (with_reducible repeat (first | refine blk_drewN ?_ _ | refine blk_drew ?_ | refine blk_alloc ?_ _)); exact BK440.out) k_ hk_.1)⟩)) (below_size (by repeat (first | (with_reducible first | exact HB.out | apply below_alloc | apply pw_below_drewN | apply below_drew1 | refine below_set ?_ GE426.out | refine below_set ?_ GE440.out) | exact HB.out)))); have n4_ := Aside0.mk (blk_below (g := gb426) (o := .cells #[.string a0_0, .int .i64 a0_1, .slice A0_2 l0_2.length c0_2, .int .i64 a0_3, .slice A0_4 l0_4.length c0_4, .int .i64 a0_5] 25 (0, 0)) (by (with_reducible repeat (first | refine blk_drewN ?_ _ | refine blk_drew ?_ | refine blk_alloc ?_ _)); refine blk_far ?_ NB426_440.out _; (with_reducible repeat (first | refine blk_drewN ?_ _ | refine blk_drew ?_ | refine blk_alloc ?_ _)); refine blk_far ?_ NB426_440.out _; (with_reducible repeat (first | refine blk_drewN ?_ _ | refine blk_drew ?_ | refine blk_alloc ?_ _)); refine blk_far ?_ NB426_440.out _; (with_reducible repeat (first | refine blk_drewN ?_ _ | refine blk_drew ?_ | refine blk_alloc ?_ _)); refine blk_far ?_ NB426_440.out _; (with_reducible repeat (first | refine blk_drewN ?_ _ | refine blk_drew ?_ | refine blk_alloc ?_ _)); refine blk_far ?_ NB426_440.out _; (with_reducible repeat (first | refine blk_drewN ?_ _ | refine blk_drew ?_ | refine blk_alloc ?_ _)); refine blk_far ?_ NB426_440.out _; (with_reducible repeat (first | refine blk_drewN ?_ _ | refine blk_drew ?_ | refine blk_alloc ?_ _)); exact BK426.out) hb); have n5_ := Aside0.mk (blk_below (g := gb440) (o := .cells #[.string t429, .int .i64 t430, .slice Ao32 t431.length co32, .int .i64 t434, .slice Ao33 t435.length co33, .int .i64 t438] 25 (0, 0)) (by (with_reducible repeat (first | refine blk_drewN ?_ _ | refine blk_drew ?_ | refine blk_alloc ?_ _)); refine blk_put (cs := #[.string t429, .int .i64 t430, .slice Ao32 t431.length co32, .int .i64 t434, .slice Ao33 t435.length co33, .int .i64 0]) ?_ 5 _ rfl; (with_reducible repeat (first | refine blk_drewN ?_ _ | refine blk_drew ?_ | refine blk_alloc ?_ _)); refine blk_put (cs := #[.string t429, .int .i64 t430, .slice Ao32 t431.length co32, .int .i64 t434, .slice none 0 0, .int .i64 0]) ?_ 4 _ rfl; (with_reducible repeat (first | refine blk_drewN ?_ _ | refine blk_drew ?_ | refine blk_alloc ?_ _)); refine blk_put (cs := #[.string t429, .int .i64 t430, .slice Ao32 t431.length co32, .int .i64 0, .slice none 0 0, .int .i64 0]) ?_ 3 _ rfl; (with_reducible repeat (first | refine blk_drewN ?_ _ | refine blk_drew ?_ | refine blk_alloc ?_ _)); refine blk_put (cs := #[.string t429, .int .i64 t430, .slice none 0 0, .int .i64 0, .slice none 0 0, .int .i64 0]) ?_ 2 _ rfl; (with_reducible repeat (first | refine blk_drewN ?_ _ | refine blk_drew ?_ | refine blk_alloc ?_ _)); refine blk_put (cs := #[.string t429, .int .i64 0, .slice none 0 0, .int .i64 0, .slice none 0 0, .int .i64 0]) ?_ 1 _ rfl; (with_reducible repeat (first | refine blk_drewN ?_ _ | refine blk_drew ?_ | refine blk_alloc ?_ _)); refine blk_put (cs := #[.string (⟨#[]⟩ : ByteArray), .int .i64 0, .slice none 0 0, .int .i64 0, .slice none 0 0, .int .i64 0]) ?_ 0 _ rfl; (with_reducible repeat (first | refine blk_drewN ?_ _ | refine blk_drew ?_ | refine blk_alloc ?_ _)); exact BK440.out) hb); have n6_ := Aside0.mk (below_step (by repeat (first | (with_reducible first | exact HB.out | apply below_alloc | apply pw_below_drewN | apply below_drew1 | refine below_set ?_ GE426.out | refine below_set ?_ GE440.out) | exact HB.out)) hb); clear HO433; clear HO437; clear BK426; clear BK440; clear HB; have HO433 := n0_; have HO437 := n1_; have HO450 := n2_; have HO454 := n3_; have BK426 := n4_; have BK440 := n5_; have HB := n6_; clear n0_ n1_ n2_ n3_ n4_ n5_ n6_; (try clear hb); (try clear hb2); (try clear hk); (try clear hi); (try clear ho0); (try clear ho1)) | ((with_reducible refine gate_dst (N := 5) rfl ?_); refine box_event ?hg (N := 5) ?hd (cs := #[.string (⟨#[]⟩ : ByteArray), .int .i64 0, .slice none 0 0, .int .i64 0, .slice none 0 0, .int .i64 0]) (t := 25) ?hr ?_; (case hd => rfl); (case hg => rfl); (case hr => first | (go_simp; done) | (go_simp; rfl)); intro gb457 hg w35 hbox hb; have n0_ := Aside0.mk (Kd.R_below (by (with_reducible repeat (first | apply Kd.R_alloc | apply Kd.R_drewN | apply Kd.R_drew)); exact HO433.out) hb); have n1_ := Aside0.mk (Kd.V_below (Kd.V_elderB (by (with_reducible repeat (first | apply Kd.V_alloc | apply Kd.V_drewN | apply Kd.V_drew)); exact HO437.out) gb457 (Nat.le_of_eq hg.symm)) hb); have n2_ := Aside0.mk (Kd.R_below (by (with_reducible repeat (first | apply Kd.R_alloc | apply Kd.R_drewN | apply Kd.R_drew)); exact HO450.out) hb); have n3_ := Aside0.mk (Kd.V_below (Kd.V_elderB (by (with_reducible repeat (first | apply Kd.V_alloc | apply Kd.V_drewN | apply Kd.V_drew)); exact HO454.out) gb457 (Nat.le_of_eq hg.symm)) hb); have n4_ := Aside0.mk (blk_below (g := gb426) (o := .cells #[.string a0_0, .int .i64 a0_1, .slice A0_2 l0_2.length c0_2, .int .i64 a0_3, .slice A0_4 l0_4.length c0_4, .int .i64 a0_5] 25 (0, 0)) (by (with_reducible repeat (first | refine blk_drewN ?_ _ | refine blk_drew ?_ | refine blk_alloc ?_ _)); exact BK426.out) hb); have n5_ := Aside0.mk (blk_below (g := gb440) (o := .cells #[.string t429, .int .i64 t430, .slice Ao32 t431.length co32, .int .i64 t434, .slice Ao33 t435.length co33, .int .i64 t438] 25 (0, 0)) (by (with_reducible repeat (first | refine blk_drewN ?_ _ | refine blk_drew ?_ | refine blk_alloc ?_ _)); exact BK440.out) hb); have n6_ := Aside0.mk (below_step (by repeat (first | (with_reducible first | exact HB.out | apply below_alloc | apply pw_below_drewN | apply below_drew1 | refine below_set ?_ GE426.out | refine below_set ?_ GE440.out) | exact HB.out)) hb); have n7_ := Aside0.mk (hbox); have n8_ := Aside0.mk ((by rw [hg]; exact (below_size (by repeat (first | (with_reducible first | exact HB.out | apply below_alloc | apply pw_below_drewN | apply below_drew1 | refine below_set ?_ GE426.out | refine below_set ?_ GE440.out) | exact HB.out))) : w.heap.size ≤ gb457)); have n9_ := Aside0.mk ((by rw [hg]; exact (below_size (by repeat (first | (with_reducible first | exact HB.out | apply below_alloc | apply pw_below_drewN | apply below_drew1 | refine below_set ?_ GE426.out | refine below_set ?_ GE440.out) | exact HB.out))) : w.heap.size ≤ gb457)); have n10_ := Aside0.mk ((by rw [hg]; exact Nat.ne_of_lt (blk_lt (g := gb426) (o := .cells #[.string a0_0, .int .i64 a0_1, .slice A0_2 l0_2.length c0_2, .int .i64 a0_3, .slice A0_4 l0_4.length c0_4, .int .i64 a0_5] 25 (0, 0)) (by (with_reducible repeat (first | refine blk_drewN ?_ _ | refine blk_drew ?_ | refine blk_alloc ?_ _)); exact BK426.out)) : gb426 ≠ gb457)); have n11_ := Aside0.mk ((by rw [hg]; exact Nat.ne_of_gt (blk_lt (g := gb426) (o := .cells #[.string a0_0, .int .i64 a0_1, .slice A0_2 l0_2.length c0_2, .int .i64 a0_3, .slice A0_4 l0_4.length c0_4, .int .i64 a0_5] 25 (0, 0)) (by (with_reducible repeat (first | refine blk_drewN ?_ _ | refine blk_drew ?_ | refine blk_alloc ?_ _)); exact BK426.out)) : gb457 ≠ gb426)); have n12_ := Aside0.mk ((by rw [hg]; exact Nat.ne_of_lt (blk_lt (g := gb440) (o := .cells #[.string t429, .int .i64 t430, .slice Ao32 t431.length co32, .int .i64 t434, .slice Ao33 t435.length co33, .int .i64 t438] 25 (0, 0)) (by (with_reducible repeat (first | refine blk_drewN ?_ _ | refine blk_drew ?_ | refine blk_alloc ?_ _)); exact BK440.out)) : gb440 ≠ gb457)); have n13_ := Aside0.mk ((by rw [hg]; exact Nat.ne_of_gt (blk_lt (g := gb440) (o := .cells #[.string t429, .int .i64 t430, .slice Ao32 t431.length co32, .int .i64 t434, .slice Ao33 t435.length co33, .int .i64 t438] 25 (0, 0)) (by (with_reducible repeat (first | refine blk_drewN ?_ _ | refine blk_drew ?_ | refine blk_alloc ?_ _)); exact BK440.out)) : gb457 ≠ gb440)); clear HO433; clear HO437; clear HO450; clear HO454; clear BK426; clear BK440; clear HB; have HO433 := n0_; have HO437 := n1_; have HO450 := n2_; have HO454 := n3_; have BK426 := n4_; have BK440 := n5_; have HB := n6_; have BK457 := n7_; have GW457 := n8_; have GE457 := n9_; have NB426_457 := n10_; have NB457_426 := n11_; have NB440_457 := n12_; have NB457_440 := n13_; clear n0_ n1_ n2_ n3_ n4_ n5_ n6_ n7_ n8_ n9_ n10_ n11_ n12_ n13_; clear hb hbox hg; have hnb36 := NB457_426.out; have hnc36 := NB426_457.out; have hnb37 := NB457_440.out; have hnc37 := NB440_457.out; have hcz38_0 : w35.cell? ⟨gb457, 0, none⟩ = some (.string (⟨#[]⟩ : ByteArray)) := (blk_cell BK457.out 0).trans rfl; have hcz38_1 : w35.cell? ⟨gb457, 1, none⟩ = some (.int .i64 0) := (blk_cell BK457.out 1).trans rfl; have hcz38_2 : w35.cell? ⟨gb457, 2, none⟩ = some (.slice none 0 0) := (blk_cell BK457.out 2).trans rfl; have hcz38_3 : w35.cell? ⟨gb457, 3, none⟩ = some (.int .i64 0) := (blk_cell BK457.out 3).trans rfl; have hcz38_4 : w35.cell? ⟨gb457, 4, none⟩ = some (.slice none 0 0) := (blk_cell BK457.out 4).trans rfl; have hcz38_5 : w35.cell? ⟨gb457, 5, none⟩ = some (.int .i64 0) := (blk_cell BK457.out 5).trans rfl; have hfz38_0 := blk_frozen BK457.out 0; have hfz38_1 := blk_frozen BK457.out 1; have hfz38_2 := blk_frozen BK457.out 2; have hfz38_3 := blk_frozen BK457.out 3; have hfz38_4 := blk_frozen BK457.out 4; have hfz38_5 := blk_frozen BK457.out 5; obtain ⟨Ao39, co39, eo39⟩ := Kd.R_slice HO450.out; subst eo39; obtain ⟨Ao40, co40, eo40⟩ := Kd.V_slice HO454.out; subst eo40))
           have n0_ : Aside0 (Kd.R k40 40 ((((((w35.setCell ⟨gb457, 0, none⟩ (.string t446)).setCell ⟨gb457, 1, none⟩ (.int .i64 t447)).setCell ⟨gb457, 2, none⟩ (.slice Ao39 t448.length co39)).setCell ⟨gb457, 3, none⟩ (.int .i64 t451)).setCell ⟨gb457, 4, none⟩ (.slice Ao40 t452.length co40)).setCell ⟨gb457, 5, none⟩ (.int .i64 t455)) w.heap.size (fun k_ => some k_ ≠ (.slice Ao39 t448.length co39 : Value).ownBlock) (.slice Ao32 t431.length co32) t431) := ⟨by (with_reducible repeat (first | apply Kd.R_alloc | apply Kd.R_drewN | apply Kd.R_drew)); exact Kd.R_mono (Kd.R_far (p := ⟨gb457, 5, none⟩) (Kd.R_far (p := ⟨gb457, 4, none⟩) (Kd.R_far (p := ⟨gb457, 3, none⟩) (Kd.R_far (p := ⟨gb457, 2, none⟩) (Kd.R_far (p := ⟨gb457, 1, none⟩) (Kd.R_far (p := ⟨gb457, 0, none⟩) (Kd.R_types HO433.out BK457.out (by decide)) (fun _ hk => hk.2) (.string t446)) (fun _ hk => hk.2) (.int .i64 t447)) (fun _ hk => hk.2) (.slice Ao39 t448.length co39)) (fun _ hk => hk.2) (.int .i64 t451)) (fun _ hk => hk.2) (.slice Ao40 t452.length co40)) (fun _ hk => hk.2) (.int .i64 t455)) (fun _ hk => hk.1.2)⟩
           have n1_ : Aside0 (Kd.V k37 37 ((((((w35.setCell ⟨gb457, 0, none⟩ (.string t446)).setCell ⟨gb457, 1, none⟩ (.int .i64 t447)).setCell ⟨gb457, 2, none⟩ (.slice Ao39 t448.length co39)).setCell ⟨gb457, 3, none⟩ (.int .i64 t451)).setCell ⟨gb457, 4, none⟩ (.slice Ao40 t452.length co40)).setCell ⟨gb457, 5, none⟩ (.int .i64 t455)) w.heap.size (fun k_ => some k_ ≠ (.slice Ao32 t431.length co32 : Value).ownBlock ∧ some k_ ≠ (.slice Ao39 t448.length co39 : Value).ownBlock ∧ k_ ≠ gb426 ∧ k_ ≠ gb440 ∧ k_ ≠ gb457) (.slice Ao33 t435.length co33) t435) := ⟨by (with_reducible repeat (first | apply Kd.V_alloc | apply Kd.V_drewN | apply Kd.V_drew)); exact Kd.V_mono (Kd.V_far (p := ⟨gb457, 5, none⟩) (Kd.V_far (p := ⟨gb457, 4, none⟩) (Kd.V_far (p := ⟨gb457, 3, none⟩) (Kd.V_far (p := ⟨gb457, 2, none⟩) (Kd.V_far (p := ⟨gb457, 1, none⟩) (Kd.V_far (p := ⟨gb457, 0, none⟩) (Kd.V_mono HO437.out (fun k_ hk => (⟨hk, hk.2⟩ : _ ∧ k_ ≠ gb457))) (fun _ hk => hk.2) (.string t446)) (fun _ hk => hk.2) (.int .i64 t447)) (fun _ hk => hk.2) (.slice Ao39 t448.length co39)) (fun _ hk => hk.2) (.int .i64 t451)) (fun _ hk => hk.2) (.slice Ao40 t452.length co40)) (fun _ hk => hk.2) (.int .i64 t455)) (fun _ hk => ⟨hk.1.1.1.1.1, ⟨hk.1.1.2, ⟨hk.1.1.1.1.2, ⟨hk.1.1.1.2, hk.1.2⟩⟩⟩⟩)⟩
           have n2_ : Aside0 (Kd.R k40 40 ((((((w35.setCell ⟨gb457, 0, none⟩ (.string t446)).setCell ⟨gb457, 1, none⟩ (.int .i64 t447)).setCell ⟨gb457, 2, none⟩ (.slice Ao39 t448.length co39)).setCell ⟨gb457, 3, none⟩ (.int .i64 t451)).setCell ⟨gb457, 4, none⟩ (.slice Ao40 t452.length co40)).setCell ⟨gb457, 5, none⟩ (.int .i64 t455)) w.heap.size (fun k_ => some k_ ≠ (.slice Ao32 t431.length co32 : Value).ownBlock) (.slice Ao39 t448.length co39) t448) := ⟨by (with_reducible repeat (first | apply Kd.R_alloc | apply Kd.R_drewN | apply Kd.R_drew)); exact Kd.R_mono (Kd.R_far (p := ⟨gb457, 5, none⟩) (Kd.R_far (p := ⟨gb457, 4, none⟩) (Kd.R_far (p := ⟨gb457, 3, none⟩) (Kd.R_far (p := ⟨gb457, 2, none⟩) (Kd.R_far (p := ⟨gb457, 1, none⟩) (Kd.R_far (p := ⟨gb457, 0, none⟩) (Kd.R_types HO450.out BK457.out (by decide)) (fun _ hk => hk.2) (.string t446)) (fun _ hk => hk.2) (.int .i64 t447)) (fun _ hk => hk.2) (.slice Ao39 t448.length co39)) (fun _ hk => hk.2) (.int .i64 t451)) (fun _ hk => hk.2) (.slice Ao40 t452.length co40)) (fun _ hk => hk.2) (.int .i64 t455)) (fun _ hk => hk.1.2)⟩
           have n3_ : Aside0 (Kd.V k37 37 ((((((w35.setCell ⟨gb457, 0, none⟩ (.string t446)).setCell ⟨gb457, 1, none⟩ (.int .i64 t447)).setCell ⟨gb457, 2, none⟩ (.slice Ao39 t448.length co39)).setCell ⟨gb457, 3, none⟩ (.int .i64 t451)).setCell ⟨gb457, 4, none⟩ (.slice Ao40 t452.length co40)).setCell ⟨gb457, 5, none⟩ (.int .i64 t455)) w.heap.size (fun k_ => some k_ ≠ (.slice Ao32 t431.length co32 : Value).ownBlock ∧ some k_ ≠ (.slice Ao39 t448.length co39 : Value).ownBlock ∧ k_ ≠ gb426 ∧ k_ ≠ gb440 ∧ k_ ≠ gb457) (.slice Ao40 t452.length co40) t452) := ⟨by (with_reducible repeat (first | apply Kd.V_alloc | apply Kd.V_drewN | apply Kd.V_drew)); exact Kd.V_mono (Kd.V_far (p := ⟨gb457, 5, none⟩) (Kd.V_far (p := ⟨gb457, 4, none⟩) (Kd.V_far (p := ⟨gb457, 3, none⟩) (Kd.V_far (p := ⟨gb457, 2, none⟩) (Kd.V_far (p := ⟨gb457, 1, none⟩) (Kd.V_far (p := ⟨gb457, 0, none⟩) (Kd.V_mono HO454.out (fun k_ hk => (⟨hk, hk.2⟩ : _ ∧ k_ ≠ gb457))) (fun _ hk => hk.2) (.string t446)) (fun _ hk => hk.2) (.int .i64 t447)) (fun _ hk => hk.2) (.slice Ao39 t448.length co39)) (fun _ hk => hk.2) (.int .i64 t451)) (fun _ hk => hk.2) (.slice Ao40 t452.length co40)) (fun _ hk => hk.2) (.int .i64 t455)) (fun _ hk => ⟨hk.1.1.2.1, ⟨hk.1.1.1, ⟨hk.1.1.2.2.1, ⟨hk.1.1.2.2.2, hk.1.2⟩⟩⟩⟩)⟩
           have n4_ : Aside0 (((((((w35.setCell ⟨gb457, 0, none⟩ (.string t446)).setCell ⟨gb457, 1, none⟩ (.int .i64 t447)).setCell ⟨gb457, 2, none⟩ (.slice Ao39 t448.length co39)).setCell ⟨gb457, 3, none⟩ (.int .i64 t451)).setCell ⟨gb457, 4, none⟩ (.slice Ao40 t452.length co40)).setCell ⟨gb457, 5, none⟩ (.int .i64 t455)).heap[gb426]? = some (.cells #[.string a0_0, .int .i64 a0_1, .slice A0_2 l0_2.length c0_2, .int .i64 a0_3, .slice A0_4 l0_4.length c0_4, .int .i64 a0_5] 25 (0, 0))) := ⟨by (with_reducible repeat (first | refine blk_drewN ?_ _ | refine blk_drew ?_ | refine blk_alloc ?_ _)); refine blk_far ?_ NB426_457.out _; (with_reducible repeat (first | refine blk_drewN ?_ _ | refine blk_drew ?_ | refine blk_alloc ?_ _)); refine blk_far ?_ NB426_457.out _; (with_reducible repeat (first | refine blk_drewN ?_ _ | refine blk_drew ?_ | refine blk_alloc ?_ _)); refine blk_far ?_ NB426_457.out _; (with_reducible repeat (first | refine blk_drewN ?_ _ | refine blk_drew ?_ | refine blk_alloc ?_ _)); refine blk_far ?_ NB426_457.out _; (with_reducible repeat (first | refine blk_drewN ?_ _ | refine blk_drew ?_ | refine blk_alloc ?_ _)); refine blk_far ?_ NB426_457.out _; (with_reducible repeat (first | refine blk_drewN ?_ _ | refine blk_drew ?_ | refine blk_alloc ?_ _)); refine blk_far ?_ NB426_457.out _; (with_reducible repeat (first | refine blk_drewN ?_ _ | refine blk_drew ?_ | refine blk_alloc ?_ _)); exact BK426.out⟩
           have n5_ : Aside0 (((((((w35.setCell ⟨gb457, 0, none⟩ (.string t446)).setCell ⟨gb457, 1, none⟩ (.int .i64 t447)).setCell ⟨gb457, 2, none⟩ (.slice Ao39 t448.length co39)).setCell ⟨gb457, 3, none⟩ (.int .i64 t451)).setCell ⟨gb457, 4, none⟩ (.slice Ao40 t452.length co40)).setCell ⟨gb457, 5, none⟩ (.int .i64 t455)).heap[gb440]? = some (.cells #[.string t429, .int .i64 t430, .slice Ao32 t431.length co32, .int .i64 t434, .slice Ao33 t435.length co33, .int .i64 t438] 25 (0, 0))) := ⟨by (with_reducible repeat (first | refine blk_drewN ?_ _ | refine blk_drew ?_ | refine blk_alloc ?_ _)); refine blk_far ?_ NB440_457.out _; (with_reducible repeat (first | refine blk_drewN ?_ _ | refine blk_drew ?_ | refine blk_alloc ?_ _)); refine blk_far ?_ NB440_457.out _; (with_reducible repeat (first | refine blk_drewN ?_ _ | refine blk_drew ?_ | refine blk_alloc ?_ _)); refine blk_far ?_ NB440_457.out _; (with_reducible repeat (first | refine blk_drewN ?_ _ | refine blk_drew ?_ | refine blk_alloc ?_ _)); refine blk_far ?_ NB440_457.out _; (with_reducible repeat (first | refine blk_drewN ?_ _ | refine blk_drew ?_ | refine blk_alloc ?_ _)); refine blk_far ?_ NB440_457.out _; (with_reducible repeat (first | refine blk_drewN ?_ _ | refine blk_drew ?_ | refine blk_alloc ?_ _)); refine blk_far ?_ NB440_457.out _; (with_reducible repeat (first | refine blk_drewN ?_ _ | refine blk_drew ?_ | refine blk_alloc ?_ _)); exact BK440.out⟩
           have n6_ : Aside0 (((((((w35.setCell ⟨gb457, 0, none⟩ (.string t446)).setCell ⟨gb457, 1, none⟩ (.int .i64 t447)).setCell ⟨gb457, 2, none⟩ (.slice Ao39 t448.length co39)).setCell ⟨gb457, 3, none⟩ (.int .i64 t451)).setCell ⟨gb457, 4, none⟩ (.slice Ao40 t452.length co40)).setCell ⟨gb457, 5, none⟩ (.int .i64 t455)).heap[gb457]? = some (.cells #[.string t446, .int .i64 t447, .slice Ao39 t448.length co39, .int .i64 t451, .slice Ao40 t452.length co40, .int .i64 t455] 25 (0, 0))) := ⟨by (with_reducible repeat (first | refine blk_drewN ?_ _ | refine blk_drew ?_ | refine blk_alloc ?_ _)); refine blk_put (cs := #[.string t446, .int .i64 t447, .slice Ao39 t448.length co39, .int .i64 t451, .slice Ao40 t452.length co40, .int .i64 0]) ?_ 5 _ rfl; (with_reducible repeat (first | refine blk_drewN ?_ _ | refine blk_drew ?_ | refine blk_alloc ?_ _)); refine blk_put (cs := #[.string t446, .int .i64 t447, .slice Ao39 t448.length co39, .int .i64 t451, .slice none 0 0, .int .i64 0]) ?_ 4 _ rfl; (with_reducible repeat (first | refine blk_drewN ?_ _ | refine blk_drew ?_ | refine blk_alloc ?_ _)); refine blk_put (cs := #[.string t446, .int .i64 t447, .slice Ao39 t448.length co39, .int .i64 0, .slice none 0 0, .int .i64 0]) ?_ 3 _ rfl; (with_reducible repeat (first | refine blk_drewN ?_ _ | refine blk_drew ?_ | refine blk_alloc ?_ _)); refine blk_put (cs := #[.string t446, .int .i64 t447, .slice none 0 0, .int .i64 0, .slice none 0 0, .int .i64 0]) ?_ 2 _ rfl; (with_reducible repeat (first | refine blk_drewN ?_ _ | refine blk_drew ?_ | refine blk_alloc ?_ _)); refine blk_put (cs := #[.string t446, .int .i64 0, .slice none 0 0, .int .i64 0, .slice none 0 0, .int .i64 0]) ?_ 1 _ rfl; (with_reducible repeat (first | refine blk_drewN ?_ _ | refine blk_drew ?_ | refine blk_alloc ?_ _)); refine blk_put (cs := #[.string (⟨#[]⟩ : ByteArray), .int .i64 0, .slice none 0 0, .int .i64 0, .slice none 0 0, .int .i64 0]) ?_ 0 _ rfl; (with_reducible repeat (first | refine blk_drewN ?_ _ | refine blk_drew ?_ | refine blk_alloc ?_ _)); exact BK457.out⟩
           have n7_ : Aside0 (Below w.heap.size w ((((((w35.setCell ⟨gb457, 0, none⟩ (.string t446)).setCell ⟨gb457, 1, none⟩ (.int .i64 t447)).setCell ⟨gb457, 2, none⟩ (.slice Ao39 t448.length co39)).setCell ⟨gb457, 3, none⟩ (.int .i64 t451)).setCell ⟨gb457, 4, none⟩ (.slice Ao40 t452.length co40)).setCell ⟨gb457, 5, none⟩ (.int .i64 t455))) := ⟨by repeat (first | (with_reducible first | exact HB.out | apply below_alloc | apply pw_below_drewN | apply below_drew1 | refine below_set ?_ GE426.out | refine below_set ?_ GE440.out | refine below_set ?_ GE457.out) | exact HB.out)⟩
           (try clear HO433)
           (try clear HO437)
           (try clear HO450)
           (try clear HO454)
           (try clear BK426)
           (try clear BK440)
           (try clear BK457)
           (try clear HB)
           generalize ((((((w35.setCell ⟨gb457, 0, none⟩ (.string t446)).setCell ⟨gb457, 1, none⟩ (.int .i64 t447)).setCell ⟨gb457, 2, none⟩ (.slice Ao39 t448.length co39)).setCell ⟨gb457, 3, none⟩ (.int .i64 t451)).setCell ⟨gb457, 4, none⟩ (.slice Ao40 t452.length co40)).setCell ⟨gb457, 5, none⟩ (.int .i64 t455)) = w41 at n0_ n1_ n2_ n3_ n4_ n5_ n6_ n7_ ⊢
           have HO433 := n0_
           have HO437 := n1_
           have HO450 := n2_
           have HO454 := n3_
           have BK426 := n4_
           have BK440 := n5_
           have BK457 := n6_
           have HB := n7_
           clear n0_ n1_ n2_ n3_ n4_ n5_ n6_ n7_
           have n0_ := Aside0.mk (Kd.R_drew HO433.out)
           have n1_ := Aside0.mk (Kd.V_drew HO437.out)
           have n2_ := Aside0.mk (Kd.R_drew HO450.out)
           have n3_ := Aside0.mk (Kd.V_drew HO454.out)
           have n4_ := Aside0.mk (blk_drew BK426.out)
           have n5_ := Aside0.mk (blk_drew BK440.out)
           have n6_ := Aside0.mk (blk_drew BK457.out)
           have n7_ := Aside0.mk (below_drew1 HB.out)
           clear HO433
           clear HO437
           clear HO450
           clear HO454
           clear BK426
           clear BK440
           clear BK457
           clear HB
           have HO433 := n0_
           have HO437 := n1_
           have HO450 := n2_
           have HO454 := n3_
           have BK426 := n4_
           have BK440 := n5_
           have BK457 := n6_
           have HB := n7_
           clear n0_ n1_ n2_ n3_ n4_ n5_ n6_ n7_
           refine start_ (n := 43) (S := fun w' => w'.cell? ⟨gb440, 0, none⟩ = some (.string t429) ∧ w'.cell? ⟨gb440, 1, none⟩ = some (.int .i64 t430) ∧ w'.cell? ⟨gb440, 2, none⟩ = some (.slice Ao32 t431.length co32) ∧ w'.cell? ⟨gb440, 3, none⟩ = some (.int .i64 t434) ∧ w'.cell? ⟨gb440, 4, none⟩ = some (.slice Ao33 t435.length co33) ∧ w'.cell? ⟨gb440, 5, none⟩ = some (.int .i64 t438) ∧ w'.cell? ⟨gb457, 0, none⟩ = some (.string t446) ∧ w'.cell? ⟨gb457, 1, none⟩ = some (.int .i64 t447) ∧ w'.cell? ⟨gb457, 2, none⟩ = some (.slice Ao39 t448.length co39) ∧ w'.cell? ⟨gb457, 3, none⟩ = some (.int .i64 t451) ∧ w'.cell? ⟨gb457, 4, none⟩ = some (.slice Ao40 t452.length co40) ∧ w'.cell? ⟨gb457, 5, none⟩ = some (.int .i64 t455) ∧ w'.cell? ⟨gb426, 0, none⟩ = some (.string a0_0) ∧ w'.cell? ⟨gb426, 1, none⟩ = some (.int .i64 a0_1) ∧ w'.cell? ⟨gb426, 2, none⟩ = some (.slice A0_2 l0_2.length c0_2) ∧ w'.cell? ⟨gb426, 3, none⟩ = some (.int .i64 a0_3) ∧ w'.cell? ⟨gb426, 4, none⟩ = some (.slice A0_4 l0_4.length c0_4) ∧ w'.cell? ⟨gb426, 5, none⟩ = some (.int .i64 a0_5)) (ds := []) #[false, false, false, false, false, false, false, false, false, false, false, false, false, false, false, false, false, false, false, false, false, false, false, false, false, false, false, false, false, false, false, false, false, false, false, false, false, false, false, false, false, false, false] (by kernel_rfl) rfl rfl ⟨(blk_cell BK440.out 0).trans rfl, (blk_cell BK440.out 1).trans rfl, (blk_cell BK440.out 2).trans rfl, (blk_cell BK440.out 3).trans rfl, (blk_cell BK440.out 4).trans rfl, (blk_cell BK440.out 5).trans rfl, (blk_cell BK457.out 0).trans rfl, (blk_cell BK457.out 1).trans rfl, (blk_cell BK457.out 2).trans rfl, (blk_cell BK457.out 3).trans rfl, (blk_cell BK457.out 4).trans rfl, (blk_cell BK457.out 5).trans rfl, (blk_cell BK426.out 0).trans rfl, (blk_cell BK426.out 1).trans rfl, (blk_cell BK426.out 2).trans rfl, (blk_cell BK426.out 3).trans rfl, (blk_cell BK426.out 4).trans rfl, (blk_cell BK426.out 5).trans rfl⟩ (fun hHeld => ?_); refine with_tabW forebaylaw07_MetricOnce.tab7 forebaylaw07_MetricOnce.bits7 (fun HT_ HW_ => ?_)
           generalize w41.drew = w42 at HO433 HO437 HO450 HO454 BK426 BK440 BK457 HB hHeld ⊢
           refine take_ (i := 0) (N := some 45) (v := ?_) (a' := ?_) #[true, false, false, false, false, false, false, false, false, false, false, false, false, false, false, false, false, false, false, false, false, false, false, false, false, false, false, false, false, false, false, false, false, false, false, false, false, false, false, false, false, false, false] rfl rfl (take_ofW HT_.out HW_.out (by kernel_rfl)) (fun _ _ _ h => h) (Or.inl ⟨by rfl, ?_⟩) hHeld ?_ ?_
           rotate_left
           ·rintro w' ⟨s0, s1, s2, s3, s4, s5, s6, s7, s8, s9, s10, s11, s12, s13, s14, s15, s16, s17⟩
            go_simp
            with_reducible rfl
           rotate_left
           ·simp only [Act.put, List.setIfInBounds_toArray, List.set_cons_zero, List.set_cons_succ, i64_w, i32_w]
            rfl
           refine one_ (i := 1) (N := some 46) #[true, true, false, false, false, false, false, false, false, false, false, false, false, false, false, false, false, false, false, false, false, false, false, false, false, false, false, false, false, false, false, false, false, false, false, false, false, false, false, false, false, false, false] rfl rfl (one_of HT_.out (by kernel_rfl)) (by decide) (fun K hK => ?_)
           refine goes_ Try.func16 (by kernel_rfl) rfl #[.agg #[.string t429, .int .i64 t430, .slice Ao32 t431.length co32, .int .i64 t434, .slice Ao33 t435.length co33, .int .i64 t438]] (by rfl) rfl rfl (by (try simp only [List.map_toArray, List.map_cons, List.map_nil]); first | done | rfl | (simp only [List.length_drop, List.length_take]; rfl)) ?_
           with_reducible refine (metric_Check.calls t429 t430 _ _ t431 t434 _ _ t435 t438 t458 _ ?side1 ?side2 ?side3 ?side4 A7.out).mono ?_
           (case side1 => repeat (first | exact (Kd.R_reads' HO433.out).2.2 | (with_reducible refine Kd.C_alloc ?_ _) | (with_reducible refine Kd.C_drewN ?_ _) | (with_reducible refine Kd.C_drew ?_)))
           (case side2 => exact (Kd.R_reads' HO433.out).2.1)
           (case side3 => repeat (first | exact (Kd.V_reads' HO437.out).2.2 | (with_reducible refine Kd.C_alloc ?_ _) | (with_reducible refine Kd.C_drewN ?_ _) | (with_reducible refine Kd.C_drew ?_)))
           (case side4 => exact (Kd.V_reads' HO437.out).2.1)
           rintro e w43 ⟨rfl, hb⟩
           refine ⟨_, rfl, ?_⟩
           have n0_ := Aside0.mk (Kd.R_below (by (with_reducible repeat (first | apply Kd.R_alloc | apply Kd.R_drewN | apply Kd.R_drew)); exact HO433.out) hb)
           have n1_ := Aside0.mk (Kd.V_below (by (with_reducible repeat (first | apply Kd.V_alloc | apply Kd.V_drewN | apply Kd.V_drew)); exact HO437.out) hb)
           have n2_ := Aside0.mk (Kd.R_below (by (with_reducible repeat (first | apply Kd.R_alloc | apply Kd.R_drewN | apply Kd.R_drew)); exact HO450.out) hb)
           have n3_ := Aside0.mk (Kd.V_below (by (with_reducible repeat (first | apply Kd.V_alloc | apply Kd.V_drewN | apply Kd.V_drew)); exact HO454.out) hb)
           have n4_ := Aside0.mk (blk_below (g := gb426) (o := .cells #[.string a0_0, .int .i64 a0_1, .slice A0_2 l0_2.length c0_2, .int .i64 a0_3, .slice A0_4 l0_4.length c0_4, .int .i64 a0_5] 25 (0, 0)) (by (with_reducible repeat (first | refine blk_drewN ?_ _ | refine blk_drew ?_ | refine blk_alloc ?_ _)); exact BK426.out) hb)
           have n5_ := Aside0.mk (blk_below (g := gb440) (o := .cells #[.string t429, .int .i64 t430, .slice Ao32 t431.length co32, .int .i64 t434, .slice Ao33 t435.length co33, .int .i64 t438] 25 (0, 0)) (by (with_reducible repeat (first | refine blk_drewN ?_ _ | refine blk_drew ?_ | refine blk_alloc ?_ _)); exact BK440.out) hb)
           have n6_ := Aside0.mk (blk_below (g := gb457) (o := .cells #[.string t446, .int .i64 t447, .slice Ao39 t448.length co39, .int .i64 t451, .slice Ao40 t452.length co40, .int .i64 t455] 25 (0, 0)) (by (with_reducible repeat (first | refine blk_drewN ?_ _ | refine blk_drew ?_ | refine blk_alloc ?_ _)); exact BK457.out) hb)
           have n7_ := Aside0.mk (below_step (by repeat (first | (with_reducible first | exact HB.out | apply below_alloc | apply pw_below_drewN | apply below_drew1 | refine below_set ?_ GE426.out | refine below_set ?_ GE440.out | refine below_set ?_ GE457.out) | exact HB.out)) hb)
           clear HO433
           clear HO437
           clear HO450
           clear HO454
           clear BK426
           clear BK440
           clear BK457
           clear HB
           have HO433 := n0_
           have HO437 := n1_
           have HO450 := n2_
           have HO454 := n3_
           have BK426 := n4_
           have BK440 := n5_
           have BK457 := n6_
           have HB := n7_
           clear n0_ n1_ n2_ n3_ n4_ n5_ n6_ n7_
           (try clear hb)
           (try clear hb2)
           (try clear hk)
           (try clear hi)
           refine hK.out _ _ ⟨(blk_cell BK440.out 0).trans rfl, (blk_cell BK440.out 1).trans rfl, (blk_cell BK440.out 2).trans rfl, (blk_cell BK440.out 3).trans rfl, (blk_cell BK440.out 4).trans rfl, (blk_cell BK440.out 5).trans rfl, (blk_cell BK457.out 0).trans rfl, (blk_cell BK457.out 1).trans rfl, (blk_cell BK457.out 2).trans rfl, (blk_cell BK457.out 3).trans rfl, (blk_cell BK457.out 4).trans rfl, (blk_cell BK457.out 5).trans rfl, (blk_cell BK426.out 0).trans rfl, (blk_cell BK426.out 1).trans rfl, (blk_cell BK426.out 2).trans rfl, (blk_cell BK426.out 3).trans rfl, (blk_cell BK426.out 4).trans rfl, (blk_cell BK426.out 5).trans rfl⟩ (fun hHeld => ?_)
           clear hK K
           refine norm_ (a' := ?_) ?_ ?_
           rotate_left
           ·show Act.put _ (some 46) _ = _
            simp only [Act.put, List.setIfInBounds_toArray, List.set_cons_zero, List.set_cons_succ, i64_w, i32_w]
            rfl
           refine pure_ (i := 2) (N := some 47) (v := ?_) (a' := ?_) #[true, true, true, false, false, false, false, false, false, false, false, false, false, false, false, false, false, false, false, false, false, false, false, false, false, false, false, false, false, false, false, false, false, false, false, false, false, false, false, false, false, false, false] rfl rfl (any_of HT_.out (by kernel_rfl)) (fun _ _ _ h => h) (Or.inl ⟨by rfl, ?_⟩) ?_ ?_
           rotate_left
           ·intro w'
            go_simp
            with_reducible rfl
           rotate_left
           ·simp only [Act.put, List.setIfInBounds_toArray, List.set_cons_zero, List.set_cons_succ, i64_w, i32_w]
            rfl
           refine pure_ (i := 3) (N := some 48) (v := ?_) (a' := ?_) #[true, true, true, true, false, false, false, false, false, false, false, false, false, false, false, false, false, false, false, false, false, false, false, false, false, false, false, false, false, false, false, false, false, false, false, false, false, false, false, false, false, false, false] rfl rfl (any_of HT_.out (by kernel_rfl)) (fun _ _ _ h => h) (Or.inl ⟨by rfl, ?_⟩) ?_ ?_
           rotate_left
           ·intro w'
            go_simp
            with_reducible rfl
           rotate_left
           ·simp only [Act.put, List.setIfInBounds_toArray, List.set_cons_zero, List.set_cons_succ, i64_w, i32_w]
            rfl
           refine take_ (i := 4) (N := some 49) (v := ?_) (a' := ?_) #[true, true, true, true, true, false, false, false, false, false, false, false, false, false, false, false, false, false, false, false, false, false, false, false, false, false, false, false, false, false, false, false, false, false, false, false, false, false, false, false, false, false, false] rfl rfl (take_ofW HT_.out HW_.out (by kernel_rfl)) (fun _ _ _ h => h) (Or.inl ⟨by rfl, ?_⟩) hHeld ?_ ?_
           rotate_left
           ·rintro w' ⟨s0, s1, s2, s3, s4, s5, s6, s7, s8, s9, s10, s11, s12, s13, s14, s15, s16, s17⟩
            go_simp
            with_reducible rfl
           rotate_left
           ·simp only [Act.put, List.setIfInBounds_toArray, List.set_cons_zero, List.set_cons_succ, i64_w, i32_w]
            rfl
           refine one_ (i := 5) (N := some 50) #[true, true, true, true, true, true, false, false, false, false, false, false, false, false, false, false, false, false, false, false, false, false, false, false, false, false, false, false, false, false, false, false, false, false, false, false, false, false, false, false, false, false, false] rfl rfl (one_of HT_.out (by kernel_rfl)) (by decide) (fun K hK => ?_)
           refine goes_ Try.func21 (by kernel_rfl) rfl #[.agg #[.string t429, .int .i64 t430, .slice Ao32 t431.length co32, .int .i64 t434, .slice Ao33 t435.length co33, .int .i64 t438]] (by rfl) rfl rfl (by (try simp only [List.map_toArray, List.map_cons, List.map_nil]); first | done | rfl | (simp only [List.length_drop, List.length_take]; rfl)) ?_
           with_reducible refine (metric_Is.calls k t429 t430 _ _ t431 t434 _ _ t435 t438 true _ ?side1 ?side2 ?side3 ?side4 A9.out).mono ?_
           (case side1 => repeat (first | exact (Kd.R_reads' HO433.out).2.2 | (with_reducible refine Kd.C_alloc ?_ _) | (with_reducible refine Kd.C_drewN ?_ _) | (with_reducible refine Kd.C_drew ?_)))
           (case side2 => exact (Kd.R_reads' HO433.out).2.1)
           (case side3 => repeat (first | exact (Kd.V_reads' HO437.out).2.2 | (with_reducible refine Kd.C_alloc ?_ _) | (with_reducible refine Kd.C_drewN ?_ _) | (with_reducible refine Kd.C_drew ?_)))
           (case side4 => exact (Kd.V_reads' HO437.out).2.1)
           rintro e w44 ⟨rfl, hb⟩
           refine ⟨_, rfl, ?_⟩
           have n0_ := Aside0.mk (Kd.R_below (by (with_reducible repeat (first | apply Kd.R_alloc | apply Kd.R_drewN | apply Kd.R_drew)); exact HO433.out) hb)
           have n1_ := Aside0.mk (Kd.V_below (by (with_reducible repeat (first | apply Kd.V_alloc | apply Kd.V_drewN | apply Kd.V_drew)); exact HO437.out) hb)
           have n2_ := Aside0.mk (Kd.R_below (by (with_reducible repeat (first | apply Kd.R_alloc | apply Kd.R_drewN | apply Kd.R_drew)); exact HO450.out) hb)
           have n3_ := Aside0.mk (Kd.V_below (by (with_reducible repeat (first | apply Kd.V_alloc | apply Kd.V_drewN | apply Kd.V_drew)); exact HO454.out) hb)
           have n4_ := Aside0.mk (blk_below (g := gb426) (o := .cells #[.string a0_0, .int .i64 a0_1, .slice A0_2 l0_2.length c0_2, .int .i64 a0_3, .slice A0_4 l0_4.length c0_4, .int .i64 a0_5] 25 (0, 0)) (by (with_reducible repeat (first | refine blk_drewN ?_ _ | refine blk_drew ?_ | refine blk_alloc ?_ _)); exact BK426.out) hb)
           have n5_ := Aside0.mk (blk_below (g := gb440) (o := .cells #[.string t429, .int .i64 t430, .slice Ao32 t431.length co32, .int .i64 t434, .slice Ao33 t435.length co33, .int .i64 t438] 25 (0, 0)) (by (with_reducible repeat (first | refine blk_drewN ?_ _ | refine blk_drew ?_ | refine blk_alloc ?_ _)); exact BK440.out) hb)
           have n6_ := Aside0.mk (blk_below (g := gb457) (o := .cells #[.string t446, .int .i64 t447, .slice Ao39 t448.length co39, .int .i64 t451, .slice Ao40 t452.length co40, .int .i64 t455] 25 (0, 0)) (by (with_reducible repeat (first | refine blk_drewN ?_ _ | refine blk_drew ?_ | refine blk_alloc ?_ _)); exact BK457.out) hb)
           have n7_ := Aside0.mk (below_step (by repeat (first | (with_reducible first | exact HB.out | apply below_alloc | apply pw_below_drewN | apply below_drew1 | refine below_set ?_ GE426.out | refine below_set ?_ GE440.out | refine below_set ?_ GE457.out) | exact HB.out)) hb)
           clear HO433
           clear HO437
           clear HO450
           clear HO454
           clear BK426
           clear BK440
           clear BK457
           clear HB
           have HO433 := n0_
           have HO437 := n1_
           have HO450 := n2_
           have HO454 := n3_
           have BK426 := n4_
           have BK440 := n5_
           have BK457 := n6_
           have HB := n7_
           clear n0_ n1_ n2_ n3_ n4_ n5_ n6_ n7_
           (try clear hb)
           (try clear hb2)
           (try clear hk)
           (try clear hi)
           refine hK.out _ _ ⟨(blk_cell BK440.out 0).trans rfl, (blk_cell BK440.out 1).trans rfl, (blk_cell BK440.out 2).trans rfl, (blk_cell BK440.out 3).trans rfl, (blk_cell BK440.out 4).trans rfl, (blk_cell BK440.out 5).trans rfl, (blk_cell BK457.out 0).trans rfl, (blk_cell BK457.out 1).trans rfl, (blk_cell BK457.out 2).trans rfl, (blk_cell BK457.out 3).trans rfl, (blk_cell BK457.out 4).trans rfl, (blk_cell BK457.out 5).trans rfl, (blk_cell BK426.out 0).trans rfl, (blk_cell BK426.out 1).trans rfl, (blk_cell BK426.out 2).trans rfl, (blk_cell BK426.out 3).trans rfl, (blk_cell BK426.out 4).trans rfl, (blk_cell BK426.out 5).trans rfl⟩ (fun hHeld => ?_)
           clear hK K
           refine norm_ (a' := ?_) ?_ ?_
           rotate_left
           ·show Act.put _ (some 50) _ = _
            simp only [Act.put, List.setIfInBounds_toArray, List.set_cons_zero, List.set_cons_succ, i64_w, i32_w]
            rfl
           refine pure_ (i := 6) (N := some 51) (v := ?_) (a' := ?_) #[true, true, true, true, true, true, true, false, false, false, false, false, false, false, false, false, false, false, false, false, false, false, false, false, false, false, false, false, false, false, false, false, false, false, false, false, false, false, false, false, false, false, false] rfl rfl (any_of HT_.out (by kernel_rfl)) (fun _ _ _ h => h) (Or.inl ⟨by rfl, ?_⟩) ?_ ?_
           rotate_left
           ·intro w'
            go_simp
            with_reducible rfl
           rotate_left
           ·simp only [Act.put, List.setIfInBounds_toArray, List.set_cons_zero, List.set_cons_succ, i64_w, i32_w]
            rfl
           refine pure_ (i := 7) (N := some 52) (v := ?_) (a' := ?_) #[true, true, true, true, true, true, true, true, false, false, false, false, false, false, false, false, false, false, false, false, false, false, false, false, false, false, false, false, false, false, false, false, false, false, false, false, false, false, false, false, false, false, false] rfl rfl (any_of HT_.out (by kernel_rfl)) (fun _ _ _ h => h) (Or.inl ⟨by rfl, ?_⟩) ?_ ?_
           rotate_left
           ·intro w'
            go_simp
            with_reducible rfl
           rotate_left
           ·simp only [Act.put, List.setIfInBounds_toArray, List.set_cons_zero, List.set_cons_succ, i64_w, i32_w]
            rfl
           refine pure_ (i := 8) (N := some 53) (v := ?_) (a' := ?_) #[true, true, true, true, true, true, true, true, true, false, false, false, false, false, false, false, false, false, false, false, false, false, false, false, false, false, false, false, false, false, false, false, false, false, false, false, false, false, false, false, false, false, false] rfl rfl (any_of HT_.out (by kernel_rfl)) (fun _ _ _ h => h) (Or.inl ⟨by rfl, ?_⟩) ?_ ?_
           rotate_left
           ·intro w'
            go_simp
            with_reducible rfl
           rotate_left
           ·simp only [Act.put, List.setIfInBounds_toArray, List.set_cons_zero, List.set_cons_succ, i64_w, i32_w]
            rfl
           refine take_ (i := 9) (N := some 54) (v := ?_) (a' := ?_) #[true, true, true, true, true, true, true, true, true, true, false, false, false, false, false, false, false, false, false, false, false, false, false, false, false, false, false, false, false, false, false, false, false, false, false, false, false, false, false, false, false, false, false] rfl rfl (take_ofW HT_.out HW_.out (by kernel_rfl)) (fun _ _ _ h => h) (Or.inl ⟨by rfl, ?_⟩) hHeld ?_ ?_
           rotate_left
           ·rintro w' ⟨s0, s1, s2, s3, s4, s5, s6, s7, s8, s9, s10, s11, s12, s13, s14, s15, s16, s17⟩
            go_simp
            with_reducible rfl
           rotate_left
           ·simp only [Act.put, List.setIfInBounds_toArray, List.set_cons_zero, List.set_cons_succ, i64_w, i32_w]
            rfl
           refine one_ (i := 10) (N := some 55) #[true, true, true, true, true, true, true, true, true, true, true, false, false, false, false, false, false, false, false, false, false, false, false, false, false, false, false, false, false, false, false, false, false, false, false, false, false, false, false, false, false, false, false] rfl rfl (one_of HT_.out (by kernel_rfl)) (by decide) (fun K hK => ?_)
           refine goes_ Try.func27 (by kernel_rfl) rfl #[.slice Ao33 t435.length co33] (by rfl) rfl rfl (by (try simp only [List.map_toArray, List.map_cons, List.map_nil]); first | done | rfl | (simp only [List.length_drop, List.length_take]; rfl)) ?_
           with_reducible refine (tag_Is.calls k _ _ t435 true _ ?side1 ?side2 A11.out).mono ?_
           (case side1 => repeat (first | exact (Kd.V_reads' HO437.out).2.2 | (with_reducible refine Kd.C_alloc ?_ _) | (with_reducible refine Kd.C_drewN ?_ _) | (with_reducible refine Kd.C_drew ?_)))
           (case side2 => exact (Kd.V_reads' HO437.out).2.1)
           rintro e w45 ⟨rfl, hb⟩
           refine ⟨_, rfl, ?_⟩
           have n0_ := Aside0.mk (Kd.R_below (by (with_reducible repeat (first | apply Kd.R_alloc | apply Kd.R_drewN | apply Kd.R_drew)); exact HO433.out) hb)
           have n1_ := Aside0.mk (Kd.V_below (by (with_reducible repeat (first | apply Kd.V_alloc | apply Kd.V_drewN | apply Kd.V_drew)); exact HO437.out) hb)
           have n2_ := Aside0.mk (Kd.R_below (by (with_reducible repeat (first | apply Kd.R_alloc | apply Kd.R_drewN | apply Kd.R_drew)); exact HO450.out) hb)
           have n3_ := Aside0.mk (Kd.V_below (by (with_reducible repeat (first | apply Kd.V_alloc | apply Kd.V_drewN | apply Kd.V_drew)); exact HO454.out) hb)
           have n4_ := Aside0.mk (blk_below (g := gb426) (o := .cells #[.string a0_0, .int .i64 a0_1, .slice A0_2 l0_2.length c0_2, .int .i64 a0_3, .slice A0_4 l0_4.length c0_4, .int .i64 a0_5] 25 (0, 0)) (by (with_reducible repeat (first | refine blk_drewN ?_ _ | refine blk_drew ?_ | refine blk_alloc ?_ _)); exact BK426.out) hb)
           have n5_ := Aside0.mk (blk_below (g := gb440) (o := .cells #[.string t429, .int .i64 t430, .slice Ao32 t431.length co32, .int .i64 t434, .slice Ao33 t435.length co33, .int .i64 t438] 25 (0, 0)) (by (with_reducible repeat (first | refine blk_drewN ?_ _ | refine blk_drew ?_ | refine blk_alloc ?_ _)); exact BK440.out) hb)
           have n6_ := Aside0.mk (blk_below (g := gb457) (o := .cells #[.string t446, .int .i64 t447, .slice Ao39 t448.length co39, .int .i64 t451, .slice Ao40 t452.length co40, .int .i64 t455] 25 (0, 0)) (by (with_reducible repeat (first | refine blk_drewN ?_ _ | refine blk_drew ?_ | refine blk_alloc ?_ _)); exact BK457.out) hb)
           have n7_ := Aside0.mk (below_step (by repeat (first | (with_reducible first | exact HB.out | apply below_alloc | apply pw_below_drewN | apply below_drew1 | refine below_set ?_ GE426.out | refine below_set ?_ GE440.out | refine below_set ?_ GE457.out) | exact HB.out)) hb)
           clear HO433
           clear HO437
           clear HO450
           clear HO454
           clear BK426
           clear BK440
           clear BK457
           clear HB
           have HO433 := n0_
           have HO437 := n1_
           have HO450 := n2_
           have HO454 := n3_
           have BK426 := n4_
           have BK440 := n5_
           have BK457 := n6_
           have HB := n7_
           clear n0_ n1_ n2_ n3_ n4_ n5_ n6_ n7_
           (try clear hb)
           (try clear hb2)
           (try clear hk)
           (try clear hi)
           refine hK.out _ _ ⟨(blk_cell BK440.out 0).trans rfl, (blk_cell BK440.out 1).trans rfl, (blk_cell BK440.out 2).trans rfl, (blk_cell BK440.out 3).trans rfl, (blk_cell BK440.out 4).trans rfl, (blk_cell BK440.out 5).trans rfl, (blk_cell BK457.out 0).trans rfl, (blk_cell BK457.out 1).trans rfl, (blk_cell BK457.out 2).trans rfl, (blk_cell BK457.out 3).trans rfl, (blk_cell BK457.out 4).trans rfl, (blk_cell BK457.out 5).trans rfl, (blk_cell BK426.out 0).trans rfl, (blk_cell BK426.out 1).trans rfl, (blk_cell BK426.out 2).trans rfl, (blk_cell BK426.out 3).trans rfl, (blk_cell BK426.out 4).trans rfl, (blk_cell BK426.out 5).trans rfl⟩ (fun hHeld => ?_)
           clear hK K
           refine norm_ (a' := ?_) ?_ ?_
           rotate_left
           ·show Act.put _ (some 55) _ = _
            simp only [Act.put, List.setIfInBounds_toArray, List.set_cons_zero, List.set_cons_succ, i64_w, i32_w]
            rfl
           refine pure_ (i := 11) (N := some 56) (v := ?_) (a' := ?_) #[true, true, true, true, true, true, true, true, true, true, true, true, false, false, false, false, false, false, false, false, false, false, false, false, false, false, false, false, false, false, false, false, false, false, false, false, false, false, false, false, false, false, false] rfl rfl (any_of HT_.out (by kernel_rfl)) (fun _ _ _ h => h) (Or.inl ⟨by rfl, ?_⟩) ?_ ?_
           rotate_left
           ·intro w'
            go_simp
            with_reducible rfl
           rotate_left
           ·simp only [Act.put, List.setIfInBounds_toArray, List.set_cons_zero, List.set_cons_succ, i64_w, i32_w]
            rfl
           refine pure_ (i := 12) (N := some 57) (v := ?_) (a' := ?_) #[true, true, true, true, true, true, true, true, true, true, true, true, true, false, false, false, false, false, false, false, false, false, false, false, false, false, false, false, false, false, false, false, false, false, false, false, false, false, false, false, false, false, false] rfl rfl (any_of HT_.out (by kernel_rfl)) (fun _ _ _ h => h) (Or.inl ⟨by rfl, ?_⟩) ?_ ?_
           rotate_left
           ·intro w'
            go_simp
            with_reducible rfl
           rotate_left
           ·simp only [Act.put, List.setIfInBounds_toArray, List.set_cons_zero, List.set_cons_succ, i64_w, i32_w]
            rfl
           refine pure_ (i := 13) (N := some 58) (v := ?_) (a' := ?_) #[true, true, true, true, true, true, true, true, true, true, true, true, true, true, false, false, false, false, false, false, false, false, false, false, false, false, false, false, false, false, false, false, false, false, false, false, false, false, false, false, false, false, false] rfl rfl (any_of HT_.out (by kernel_rfl)) (fun _ _ _ h => h) (Or.inl ⟨by rfl, ?_⟩) ?_ ?_
           rotate_left
           ·intro w'
            go_simp
            with_reducible rfl
           rotate_left
           ·simp only [Act.put, List.setIfInBounds_toArray, List.set_cons_zero, List.set_cons_succ, i64_w, i32_w]
            rfl
           refine pure_ (i := 14) (N := some 59) (v := ?_) (a' := ?_) #[true, true, true, true, true, true, true, true, true, true, true, true, true, true, true, false, false, false, false, false, false, false, false, false, false, false, false, false, false, false, false, false, false, false, false, false, false, false, false, false, false, false, false] rfl rfl (any_of HT_.out (by kernel_rfl)) (fun _ _ _ h => h) (Or.inl ⟨by rfl, ?_⟩) ?_ ?_
           rotate_left
           ·intro w'
            go_simp
            with_reducible rfl
           rotate_left
           ·simp only [Act.put, List.setIfInBounds_toArray, List.set_cons_zero, List.set_cons_succ, i64_w, i32_w]
            rfl
           refine pure_ (i := 15) (N := some 60) (v := ?_) (a' := ?_) #[true, true, true, true, true, true, true, true, true, true, true, true, true, true, true, true, false, false, false, false, false, false, false, false, false, false, false, false, false, false, false, false, false, false, false, false, false, false, false, false, false, false, false] rfl rfl (any_of HT_.out (by kernel_rfl)) (fun _ _ _ h => h) (Or.inl ⟨by rfl, ?_⟩) ?_ ?_
           rotate_left
           ·intro w'
            go_simp
            with_reducible rfl
           rotate_left
           ·simp only [Act.put, List.setIfInBounds_toArray, List.set_cons_zero, List.set_cons_succ, i64_w, i32_w]
            rfl
           refine pure_ (i := 16) (N := some 61) (v := ?_) (a' := ?_) #[true, true, true, true, true, true, true, true, true, true, true, true, true, true, true, true, true, false, false, false, false, false, false, false, false, false, false, false, false, false, false, false, false, false, false, false, false, false, false, false, false, false, false] rfl rfl (any_of HT_.out (by kernel_rfl)) (fun _ _ _ h => h) (Or.inl ⟨by rfl, ?_⟩) ?_ ?_
           rotate_left
           ·intro w'
            go_simp
            with_reducible rfl
           rotate_left
           ·simp only [Act.put, List.setIfInBounds_toArray, List.set_cons_zero, List.set_cons_succ, i64_w, i32_w]
            rfl
           refine take_ (i := 17) (N := some 62) (v := ?_) (a' := ?_) #[true, true, true, true, true, true, true, true, true, true, true, true, true, true, true, true, true, true, false, false, false, false, false, false, false, false, false, false, false, false, false, false, false, false, false, false, false, false, false, false, false, false, false] rfl rfl (take_ofW HT_.out HW_.out (by kernel_rfl)) (fun _ _ _ h => h) (Or.inl ⟨by rfl, ?_⟩) hHeld ?_ ?_
           rotate_left
           ·rintro w' ⟨s0, s1, s2, s3, s4, s5, s6, s7, s8, s9, s10, s11, s12, s13, s14, s15, s16, s17⟩
            go_simp
            with_reducible rfl
           rotate_left
           ·simp only [Act.put, List.setIfInBounds_toArray, List.set_cons_zero, List.set_cons_succ, i64_w, i32_w]
            rfl
           refine take_ (i := 18) (N := some 63) (v := ?_) (a' := ?_) #[true, true, true, true, true, true, true, true, true, true, true, true, true, true, true, true, true, true, true, false, false, false, false, false, false, false, false, false, false, false, false, false, false, false, false, false, false, false, false, false, false, false, false] rfl rfl (take_ofW HT_.out HW_.out (by kernel_rfl)) (fun _ _ _ h => h) (Or.inl ⟨by rfl, ?_⟩) hHeld ?_ ?_
           rotate_left
           ·rintro w' ⟨s0, s1, s2, s3, s4, s5, s6, s7, s8, s9, s10, s11, s12, s13, s14, s15, s16, s17⟩
            go_simp
            with_reducible rfl
           rotate_left
           ·simp only [Act.put, List.setIfInBounds_toArray, List.set_cons_zero, List.set_cons_succ, i64_w, i32_w]
            rfl
           refine one_ (i := 19) (N := some 64) #[true, true, true, true, true, true, true, true, true, true, true, true, true, true, true, true, true, true, true, true, false, false, false, false, false, false, false, false, false, false, false, false, false, false, false, false, false, false, false, false, false, false, false] rfl rfl (one_of HT_.out (by kernel_rfl)) (by decide) (fun K hK => ?_)
           refine goes_ Try.func22 (by kernel_rfl) rfl #[.agg #[.string t446, .int .i64 t447, .slice Ao39 t448.length co39, .int .i64 t451, .slice Ao40 t452.length co40, .int .i64 t455], .agg #[.string t429, .int .i64 t430, .slice Ao32 t431.length co32, .int .i64 t434, .slice Ao33 t435.length co33, .int .i64 t438]] (by rfl) rfl rfl (by (try simp only [List.map_toArray, List.map_cons, List.map_nil]); first | done | rfl | (simp only [List.length_drop, List.length_take]; rfl)) ?_
           with_reducible refine (metric_Equal.calls k t446 t447 _ _ t448 t451 _ _ t452 t455 t429 t430 _ _ t431 t434 _ _ t435 t438 true _ ?side1 ?side2 ?side3 ?side4 ?side5 ?side6 ?side7 ?side8 A14.out).mono ?_
           (case side1 => repeat (first | exact (Kd.R_reads' HO450.out).2.2 | (with_reducible refine Kd.C_alloc ?_ _) | (with_reducible refine Kd.C_drewN ?_ _) | (with_reducible refine Kd.C_drew ?_)))
           (case side2 => exact (Kd.R_reads' HO450.out).2.1)
           (case side3 => repeat (first | exact (Kd.V_reads' HO454.out).2.2 | (with_reducible refine Kd.C_alloc ?_ _) | (with_reducible refine Kd.C_drewN ?_ _) | (with_reducible refine Kd.C_drew ?_)))
           (case side4 => exact (Kd.V_reads' HO454.out).2.1)
           (case side5 => repeat (first | exact (Kd.R_reads' HO433.out).2.2 | (with_reducible refine Kd.C_alloc ?_ _) | (with_reducible refine Kd.C_drewN ?_ _) | (with_reducible refine Kd.C_drew ?_)))
           (case side6 => exact (Kd.R_reads' HO433.out).2.1)
           (case side7 => repeat (first | exact (Kd.V_reads' HO437.out).2.2 | (with_reducible refine Kd.C_alloc ?_ _) | (with_reducible refine Kd.C_drewN ?_ _) | (with_reducible refine Kd.C_drew ?_)))
           (case side8 => exact (Kd.V_reads' HO437.out).2.1)
           rintro e w46 ⟨rfl, hb⟩
           refine ⟨_, rfl, ?_⟩
           have n0_ := Aside0.mk (Kd.R_below (by (with_reducible repeat (first | apply Kd.R_alloc | apply Kd.R_drewN | apply Kd.R_drew)); exact HO433.out) hb)
           have n1_ := Aside0.mk (Kd.V_below (by (with_reducible repeat (first | apply Kd.V_alloc | apply Kd.V_drewN | apply Kd.V_drew)); exact HO437.out) hb)
           have n2_ := Aside0.mk (Kd.R_below (by (with_reducible repeat (first | apply Kd.R_alloc | apply Kd.R_drewN | apply Kd.R_drew)); exact HO450.out) hb)
           have n3_ := Aside0.mk (Kd.V_below (by (with_reducible repeat (first | apply Kd.V_alloc | apply Kd.V_drewN | apply Kd.V_drew)); exact HO454.out) hb)
           have n4_ := Aside0.mk (blk_below (g := gb426) (o := .cells #[.string a0_0, .int .i64 a0_1, .slice A0_2 l0_2.length c0_2, .int .i64 a0_3, .slice A0_4 l0_4.length c0_4, .int .i64 a0_5] 25 (0, 0)) (by (with_reducible repeat (first | refine blk_drewN ?_ _ | refine blk_drew ?_ | refine blk_alloc ?_ _)); exact BK426.out) hb)
           have n5_ := Aside0.mk (blk_below (g := gb440) (o := .cells #[.string t429, .int .i64 t430, .slice Ao32 t431.length co32, .int .i64 t434, .slice Ao33 t435.length co33, .int .i64 t438] 25 (0, 0)) (by (with_reducible repeat (first | refine blk_drewN ?_ _ | refine blk_drew ?_ | refine blk_alloc ?_ _)); exact BK440.out) hb)
           have n6_ := Aside0.mk (blk_below (g := gb457) (o := .cells #[.string t446, .int .i64 t447, .slice Ao39 t448.length co39, .int .i64 t451, .slice Ao40 t452.length co40, .int .i64 t455] 25 (0, 0)) (by (with_reducible repeat (first | refine blk_drewN ?_ _ | refine blk_drew ?_ | refine blk_alloc ?_ _)); exact BK457.out) hb)
           have n7_ := Aside0.mk (below_step (by repeat (first | (with_reducible first | exact HB.out | apply below_alloc | apply pw_below_drewN | apply below_drew1 | refine below_set ?_ GE426.out | refine below_set ?_ GE440.out | refine below_set ?_ GE457.out) | exact HB.out)) hb)
           clear HO433
           clear HO437
           clear HO450
           clear HO454
           clear BK426
           clear BK440
           clear BK457
           clear HB
           have HO433 := n0_
           have HO437 := n1_
           have HO450 := n2_
           have HO454 := n3_
           have BK426 := n4_
           have BK440 := n5_
           have BK457 := n6_
           have HB := n7_
           clear n0_ n1_ n2_ n3_ n4_ n5_ n6_ n7_
           (try clear hb)
           (try clear hb2)
           (try clear hk)
           (try clear hi)
           refine hK.out _ _ ⟨(blk_cell BK440.out 0).trans rfl, (blk_cell BK440.out 1).trans rfl, (blk_cell BK440.out 2).trans rfl, (blk_cell BK440.out 3).trans rfl, (blk_cell BK440.out 4).trans rfl, (blk_cell BK440.out 5).trans rfl, (blk_cell BK457.out 0).trans rfl, (blk_cell BK457.out 1).trans rfl, (blk_cell BK457.out 2).trans rfl, (blk_cell BK457.out 3).trans rfl, (blk_cell BK457.out 4).trans rfl, (blk_cell BK457.out 5).trans rfl, (blk_cell BK426.out 0).trans rfl, (blk_cell BK426.out 1).trans rfl, (blk_cell BK426.out 2).trans rfl, (blk_cell BK426.out 3).trans rfl, (blk_cell BK426.out 4).trans rfl, (blk_cell BK426.out 5).trans rfl⟩ (fun hHeld => ?_)
           clear hK K
           refine norm_ (a' := ?_) ?_ ?_
           rotate_left
           ·show Act.put _ (some 64) _ = _
            simp only [Act.put, List.setIfInBounds_toArray, List.set_cons_zero, List.set_cons_succ, i64_w, i32_w]
            rfl
           refine pure_ (i := 20) (N := some 65) (v := ?_) (a' := ?_) #[true, true, true, true, true, true, true, true, true, true, true, true, true, true, true, true, true, true, true, true, true, false, false, false, false, false, false, false, false, false, false, false, false, false, false, false, false, false, false, false, false, false, false] rfl rfl (any_of HT_.out (by kernel_rfl)) (fun _ _ _ h => h) (Or.inl ⟨by rfl, ?_⟩) ?_ ?_
           rotate_left
           ·intro w'
            go_simp
            with_reducible rfl
           rotate_left
           ·simp only [Act.put, List.setIfInBounds_toArray, List.set_cons_zero, List.set_cons_succ, i64_w, i32_w]
            rfl
           refine pure_ (i := 21) (N := some 66) (v := ?_) (a' := ?_) #[true, true, true, true, true, true, true, true, true, true, true, true, true, true, true, true, true, true, true, true, true, true, false, false, false, false, false, false, false, false, false, false, false, false, false, false, false, false, false, false, false, false, false] rfl rfl (any_of HT_.out (by kernel_rfl)) (fun _ _ _ h => h) (Or.inl ⟨by rfl, ?_⟩) ?_ ?_
           rotate_left
           ·intro w'
            go_simp
            with_reducible rfl
           rotate_left
           ·simp only [Act.put, List.setIfInBounds_toArray, List.set_cons_zero, List.set_cons_succ, i64_w, i32_w]
            rfl
           refine take_ (i := 22) (N := some 67) (v := ?_) (a' := ?_) #[true, true, true, true, true, true, true, true, true, true, true, true, true, true, true, true, true, true, true, true, true, true, true, false, false, false, false, false, false, false, false, false, false, false, false, false, false, false, false, false, false, false, false] rfl rfl (take_ofW HT_.out HW_.out (by kernel_rfl)) (fun _ _ _ h => h) (Or.inl ⟨by rfl, ?_⟩) hHeld ?_ ?_
           rotate_left
           ·rintro w' ⟨s0, s1, s2, s3, s4, s5, s6, s7, s8, s9, s10, s11, s12, s13, s14, s15, s16, s17⟩
            go_simp
            with_reducible rfl
           rotate_left
           ·simp only [Act.put, List.setIfInBounds_toArray, List.set_cons_zero, List.set_cons_succ, i64_w, i32_w]
            rfl
           refine take_ (i := 23) (N := some 68) (v := ?_) (a' := ?_) #[true, true, true, true, true, true, true, true, true, true, true, true, true, true, true, true, true, true, true, true, true, true, true, true, false, false, false, false, false, false, false, false, false, false, false, false, false, false, false, false, false, false, false] rfl rfl (take_ofW HT_.out HW_.out (by kernel_rfl)) (fun _ _ _ h => h) (Or.inl ⟨by rfl, ?_⟩) hHeld ?_ ?_
           rotate_left
           ·rintro w' ⟨s0, s1, s2, s3, s4, s5, s6, s7, s8, s9, s10, s11, s12, s13, s14, s15, s16, s17⟩
            go_simp
            with_reducible rfl
           rotate_left
           ·simp only [Act.put, List.setIfInBounds_toArray, List.set_cons_zero, List.set_cons_succ, i64_w, i32_w]
            rfl
           refine one_ (i := 24) (N := some 69) #[true, true, true, true, true, true, true, true, true, true, true, true, true, true, true, true, true, true, true, true, true, true, true, true, true, false, false, false, false, false, false, false, false, false, false, false, false, false, false, false, false, false, false] rfl rfl (one_of HT_.out (by kernel_rfl)) (by decide) (fun K hK => ?_)
           refine goes_ Try.func23 (by kernel_rfl) rfl #[.agg #[.string a0_0, .int .i64 a0_1, .slice A0_2 l0_2.length c0_2, .int .i64 a0_3, .slice A0_4 l0_4.length c0_4, .int .i64 a0_5], .agg #[.string t429, .int .i64 t430, .slice Ao32 t431.length co32, .int .i64 t434, .slice Ao33 t435.length co33, .int .i64 t438]] (by rfl) rfl rfl (by (try simp only [List.map_toArray, List.map_cons, List.map_nil]); first | done | rfl | (simp only [List.length_drop, List.length_take]; rfl)) ?_
           with_reducible refine (metric_Same.calls k a0_0 a0_1 _ _ l0_2 a0_3 _ _ l0_4 a0_5 t429 t430 _ _ t431 t434 _ _ t435 t438 true _ ?side1 ?side2 ?side3 ?side4 ?side5 ?side6 ?side7 ?side8 A16.out).mono ?_
           (case side1 => repeat (first | exact (Kd.C_below HR0_2.out HB.out) | (with_reducible refine Kd.C_alloc ?_ _) | (with_reducible refine Kd.C_drewN ?_ _) | (with_reducible refine Kd.C_drew ?_)))
           (case side2 => exact HC0_2.out)
           (case side3 => repeat (first | exact (Kd.C_below HR0_4.out HB.out) | (with_reducible refine Kd.C_alloc ?_ _) | (with_reducible refine Kd.C_drewN ?_ _) | (with_reducible refine Kd.C_drew ?_)))
           (case side4 => exact HC0_4.out)
           (case side5 => repeat (first | exact (Kd.R_reads' HO433.out).2.2 | (with_reducible refine Kd.C_alloc ?_ _) | (with_reducible refine Kd.C_drewN ?_ _) | (with_reducible refine Kd.C_drew ?_)))
           (case side6 => exact (Kd.R_reads' HO433.out).2.1)
           (case side7 => repeat (first | exact (Kd.V_reads' HO437.out).2.2 | (with_reducible refine Kd.C_alloc ?_ _) | (with_reducible refine Kd.C_drewN ?_ _) | (with_reducible refine Kd.C_drew ?_)))
           (case side8 => exact (Kd.V_reads' HO437.out).2.1)
           rintro e w47 ⟨rfl, hb⟩
           refine ⟨_, rfl, ?_⟩
           have n0_ := Aside0.mk (Kd.R_below (by (with_reducible repeat (first | apply Kd.R_alloc | apply Kd.R_drewN | apply Kd.R_drew)); exact HO433.out) hb)
           have n1_ := Aside0.mk (Kd.V_below (by (with_reducible repeat (first | apply Kd.V_alloc | apply Kd.V_drewN | apply Kd.V_drew)); exact HO437.out) hb)
           have n2_ := Aside0.mk (Kd.R_below (by (with_reducible repeat (first | apply Kd.R_alloc | apply Kd.R_drewN | apply Kd.R_drew)); exact HO450.out) hb)
           have n3_ := Aside0.mk (Kd.V_below (by (with_reducible repeat (first | apply Kd.V_alloc | apply Kd.V_drewN | apply Kd.V_drew)); exact HO454.out) hb)
           have n4_ := Aside0.mk (blk_below (g := gb426) (o := .cells #[.string a0_0, .int .i64 a0_1, .slice A0_2 l0_2.length c0_2, .int .i64 a0_3, .slice A0_4 l0_4.length c0_4, .int .i64 a0_5] 25 (0, 0)) (by (with_reducible repeat (first | refine blk_drewN ?_ _ | refine blk_drew ?_ | refine blk_alloc ?_ _)); exact BK426.out) hb)
           have n5_ := Aside0.mk (blk_below (g := gb440) (o := .cells #[.string t429, .int .i64 t430, .slice Ao32 t431.length co32, .int .i64 t434, .slice Ao33 t435.length co33, .int .i64 t438] 25 (0, 0)) (by (with_reducible repeat (first | refine blk_drewN ?_ _ | refine blk_drew ?_ | refine blk_alloc ?_ _)); exact BK440.out) hb)
           have n6_ := Aside0.mk (blk_below (g := gb457) (o := .cells #[.string t446, .int .i64 t447, .slice Ao39 t448.length co39, .int .i64 t451, .slice Ao40 t452.length co40, .int .i64 t455] 25 (0, 0)) (by (with_reducible repeat (first | refine blk_drewN ?_ _ | refine blk_drew ?_ | refine blk_alloc ?_ _)); exact BK457.out) hb)
           have n7_ := Aside0.mk (below_step (by repeat (first | (with_reducible first | exact HB.out | apply below_alloc | apply pw_below_drewN | apply below_drew1 | refine below_set ?_ GE426.out | refine below_set ?_ GE440.out | refine below_set ?_ GE457.out) | exact HB.out)) hb)
           clear HO433
           clear HO437
           clear HO450
           clear HO454
           clear BK426
           clear BK440
           clear BK457
           clear HB
           have HO433 := n0_
           have HO437 := n1_
           have HO450 := n2_
           have HO454 := n3_
           have BK426 := n4_
           have BK440 := n5_
           have BK457 := n6_
           have HB := n7_
           clear n0_ n1_ n2_ n3_ n4_ n5_ n6_ n7_
           (try clear hb)
           (try clear hb2)
           (try clear hk)
           (try clear hi)
           refine hK.out _ _ ⟨(blk_cell BK440.out 0).trans rfl, (blk_cell BK440.out 1).trans rfl, (blk_cell BK440.out 2).trans rfl, (blk_cell BK440.out 3).trans rfl, (blk_cell BK440.out 4).trans rfl, (blk_cell BK440.out 5).trans rfl, (blk_cell BK457.out 0).trans rfl, (blk_cell BK457.out 1).trans rfl, (blk_cell BK457.out 2).trans rfl, (blk_cell BK457.out 3).trans rfl, (blk_cell BK457.out 4).trans rfl, (blk_cell BK457.out 5).trans rfl, (blk_cell BK426.out 0).trans rfl, (blk_cell BK426.out 1).trans rfl, (blk_cell BK426.out 2).trans rfl, (blk_cell BK426.out 3).trans rfl, (blk_cell BK426.out 4).trans rfl, (blk_cell BK426.out 5).trans rfl⟩ (fun hHeld => ?_)
           clear hK K
           refine norm_ (a' := ?_) ?_ ?_
           rotate_left
           ·show Act.put _ (some 69) _ = _
            simp only [Act.put, List.setIfInBounds_toArray, List.set_cons_zero, List.set_cons_succ, i64_w, i32_w]
            rfl
           refine pure_ (i := 25) (N := some 70) (v := ?_) (a' := ?_) #[true, true, true, true, true, true, true, true, true, true, true, true, true, true, true, true, true, true, true, true, true, true, true, true, true, true, false, false, false, false, false, false, false, false, false, false, false, false, false, false, false, false, false] rfl rfl (any_of HT_.out (by kernel_rfl)) (fun _ _ _ h => h) (Or.inl ⟨by rfl, ?_⟩) ?_ ?_
           rotate_left
           ·intro w'
            go_simp
            with_reducible rfl
           rotate_left
           ·simp only [Act.put, List.setIfInBounds_toArray, List.set_cons_zero, List.set_cons_succ, i64_w, i32_w]
            rfl
           refine pure_ (i := 26) (N := some 71) (v := ?_) (a' := ?_) #[true, true, true, true, true, true, true, true, true, true, true, true, true, true, true, true, true, true, true, true, true, true, true, true, true, true, true, false, false, false, false, false, false, false, false, false, false, false, false, false, false, false, false] rfl rfl (any_of HT_.out (by kernel_rfl)) (fun _ _ _ h => h) (Or.inl ⟨by rfl, ?_⟩) ?_ ?_
           rotate_left
           ·intro w'
            go_simp
            with_reducible rfl
           rotate_left
           ·simp only [Act.put, List.setIfInBounds_toArray, List.set_cons_zero, List.set_cons_succ, i64_w, i32_w]
            rfl
           refine take_ (i := 27) (N := some 72) (v := ?_) (a' := ?_) #[true, true, true, true, true, true, true, true, true, true, true, true, true, true, true, true, true, true, true, true, true, true, true, true, true, true, true, true, false, false, false, false, false, false, false, false, false, false, false, false, false, false, false] rfl rfl (take_ofW HT_.out HW_.out (by kernel_rfl)) (fun _ _ _ h => h) (Or.inl ⟨by rfl, ?_⟩) hHeld ?_ ?_
           rotate_left
           ·rintro w' ⟨s0, s1, s2, s3, s4, s5, s6, s7, s8, s9, s10, s11, s12, s13, s14, s15, s16, s17⟩
            go_simp
            with_reducible rfl
           rotate_left
           ·simp only [Act.put, List.setIfInBounds_toArray, List.set_cons_zero, List.set_cons_succ, i64_w, i32_w]
            rfl
           refine take_ (i := 29) (N := some 74) (v := ?_) (a' := ?_) #[true, true, true, true, true, true, true, true, true, true, true, true, true, true, true, true, true, true, true, true, true, true, true, true, true, true, true, true, false, true, false, false, false, false, false, false, false, false, false, false, false, false, false] rfl rfl (take_ofW HT_.out HW_.out (by kernel_rfl)) (fun _ _ _ h => h) (Or.inl ⟨by rfl, ?_⟩) hHeld ?_ ?_
           rotate_left
           ·rintro w' ⟨s0, s1, s2, s3, s4, s5, s6, s7, s8, s9, s10, s11, s12, s13, s14, s15, s16, s17⟩
            go_simp
            with_reducible rfl
           rotate_left
           ·simp only [Act.put, List.setIfInBounds_toArray, List.set_cons_zero, List.set_cons_succ, i64_w, i32_w]
            rfl
           refine one_ (i := 28) (N := some 73) #[true, true, true, true, true, true, true, true, true, true, true, true, true, true, true, true, true, true, true, true, true, true, true, true, true, true, true, true, true, true, false, false, false, false, false, false, false, false, false, false, false, false, false] rfl rfl (one_of HT_.out (by kernel_rfl)) (by decide) (fun K hK => ?_)
           refine goes_ Try.func21 (by kernel_rfl) rfl #[.agg #[.string a0_0, .int .i64 a0_1, .slice A0_2 l0_2.length c0_2, .int .i64 a0_3, .slice A0_4 l0_4.length c0_4, .int .i64 a0_5]] (by rfl) rfl rfl (by (try simp only [List.map_toArray, List.map_cons, List.map_nil]); first | done | rfl | (simp only [List.length_drop, List.length_take]; rfl)) ?_
           with_reducible refine (metric_Is.calls k a0_0 a0_1 _ _ l0_2 a0_3 _ _ l0_4 a0_5 t463 _ ?side1 ?side2 ?side3 ?side4 A18.out).mono ?_
           (case side1 => repeat (first | exact (Kd.C_below HR0_2.out HB.out) | (with_reducible refine Kd.C_alloc ?_ _) | (with_reducible refine Kd.C_drewN ?_ _) | (with_reducible refine Kd.C_drew ?_)))
           (case side2 => exact HC0_2.out)
           (case side3 => repeat (first | exact (Kd.C_below HR0_4.out HB.out) | (with_reducible refine Kd.C_alloc ?_ _) | (with_reducible refine Kd.C_drewN ?_ _) | (with_reducible refine Kd.C_drew ?_)))
           (case side4 => exact HC0_4.out)
           rintro e w48 ⟨rfl, hb⟩
           refine ⟨_, rfl, ?_⟩
           have n0_ := Aside0.mk (Kd.R_below (by (with_reducible repeat (first | apply Kd.R_alloc | apply Kd.R_drewN | apply Kd.R_drew)); exact HO433.out) hb)
           have n1_ := Aside0.mk (Kd.V_below (by (with_reducible repeat (first | apply Kd.V_alloc | apply Kd.V_drewN | apply Kd.V_drew)); exact HO437.out) hb)
           have n2_ := Aside0.mk (Kd.R_below (by (with_reducible repeat (first | apply Kd.R_alloc | apply Kd.R_drewN | apply Kd.R_drew)); exact HO450.out) hb)
           have n3_ := Aside0.mk (Kd.V_below (by (with_reducible repeat (first | apply Kd.V_alloc | apply Kd.V_drewN | apply Kd.V_drew)); exact HO454.out) hb)
           have n4_ := Aside0.mk (blk_below (g := gb426) (o := .cells #[.string a0_0, .int .i64 a0_1, .slice A0_2 l0_2.length c0_2, .int .i64 a0_3, .slice A0_4 l0_4.length c0_4, .int .i64 a0_5] 25 (0, 0)) (by (with_reducible repeat (first | refine blk_drewN ?_ _ | refine blk_drew ?_ | refine blk_alloc ?_ _)); exact BK426.out) hb)
           have n5_ := Aside0.mk (blk_below (g := gb440) (o := .cells #[.string t429, .int .i64 t430, .slice Ao32 t431.length co32, .int .i64 t434, .slice Ao33 t435.length co33, .int .i64 t438] 25 (0, 0)) (by (with_reducible repeat (first | refine blk_drewN ?_ _ | refine blk_drew ?_ | refine blk_alloc ?_ _)); exact BK440.out) hb)
           have n6_ := Aside0.mk (blk_below (g := gb457) (o := .cells #[.string t446, .int .i64 t447, .slice Ao39 t448.length co39, .int .i64 t451, .slice Ao40 t452.length co40, .int .i64 t455] 25 (0, 0)) (by (with_reducible repeat (first | refine blk_drewN ?_ _ | refine blk_drew ?_ | refine blk_alloc ?_ _)); exact BK457.out) hb)
           have n7_ := Aside0.mk (below_step (by repeat (first | (with_reducible first | exact HB.out | apply below_alloc | apply pw_below_drewN | apply below_drew1 | refine below_set ?_ GE426.out | refine below_set ?_ GE440.out | refine below_set ?_ GE457.out) | exact HB.out)) hb)
           clear HO433
           clear HO437
           clear HO450
           clear HO454
           clear BK426
           clear BK440
           clear BK457
           clear HB
           have HO433 := n0_
           have HO437 := n1_
           have HO450 := n2_
           have HO454 := n3_
           have BK426 := n4_
           have BK440 := n5_
           have BK457 := n6_
           have HB := n7_
           clear n0_ n1_ n2_ n3_ n4_ n5_ n6_ n7_
           (try clear hb)
           (try clear hb2)
           (try clear hk)
           (try clear hi)
           refine hK.out _ _ ⟨(blk_cell BK440.out 0).trans rfl, (blk_cell BK440.out 1).trans rfl, (blk_cell BK440.out 2).trans rfl, (blk_cell BK440.out 3).trans rfl, (blk_cell BK440.out 4).trans rfl, (blk_cell BK440.out 5).trans rfl, (blk_cell BK457.out 0).trans rfl, (blk_cell BK457.out 1).trans rfl, (blk_cell BK457.out 2).trans rfl, (blk_cell BK457.out 3).trans rfl, (blk_cell BK457.out 4).trans rfl, (blk_cell BK457.out 5).trans rfl, (blk_cell BK426.out 0).trans rfl, (blk_cell BK426.out 1).trans rfl, (blk_cell BK426.out 2).trans rfl, (blk_cell BK426.out 3).trans rfl, (blk_cell BK426.out 4).trans rfl, (blk_cell BK426.out 5).trans rfl⟩ (fun hHeld => ?_)
           clear hK K
           refine norm_ (a' := ?_) ?_ ?_
           rotate_left
           ·show Act.put _ (some 73) _ = _
            simp only [Act.put, List.setIfInBounds_toArray, List.set_cons_zero, List.set_cons_succ, i64_w, i32_w]
            rfl
           refine one_ (i := 30) (N := some 75) #[true, true, true, true, true, true, true, true, true, true, true, true, true, true, true, true, true, true, true, true, true, true, true, true, true, true, true, true, true, true, true, false, false, false, false, false, false, false, false, false, false, false, false] rfl rfl (one_of HT_.out (by kernel_rfl)) (by decide) (fun K hK => ?_)
           refine goes_ Try.func16 (by kernel_rfl) rfl #[.agg #[.string a0_0, .int .i64 a0_1, .slice A0_2 l0_2.length c0_2, .int .i64 a0_3, .slice A0_4 l0_4.length c0_4, .int .i64 a0_5]] (by rfl) rfl rfl (by (try simp only [List.map_toArray, List.map_cons, List.map_nil]); first | done | rfl | (simp only [List.length_drop, List.length_take]; rfl)) ?_
           with_reducible refine (metric_Check.calls a0_0 a0_1 _ _ l0_2 a0_3 _ _ l0_4 a0_5 t464 _ ?side1 ?side2 ?side3 ?side4 A19.out).mono ?_
           (case side1 => repeat (first | exact (Kd.C_below HR0_2.out HB.out) | (with_reducible refine Kd.C_alloc ?_ _) | (with_reducible refine Kd.C_drewN ?_ _) | (with_reducible refine Kd.C_drew ?_)))
           (case side2 => exact HC0_2.out)
           (case side3 => repeat (first | exact (Kd.C_below HR0_4.out HB.out) | (with_reducible refine Kd.C_alloc ?_ _) | (with_reducible refine Kd.C_drewN ?_ _) | (with_reducible refine Kd.C_drew ?_)))
           (case side4 => exact HC0_4.out)
           rintro e w49 ⟨rfl, hb⟩
           refine ⟨_, rfl, ?_⟩
           have n0_ := Aside0.mk (Kd.R_below (by (with_reducible repeat (first | apply Kd.R_alloc | apply Kd.R_drewN | apply Kd.R_drew)); exact HO433.out) hb)
           have n1_ := Aside0.mk (Kd.V_below (by (with_reducible repeat (first | apply Kd.V_alloc | apply Kd.V_drewN | apply Kd.V_drew)); exact HO437.out) hb)
           have n2_ := Aside0.mk (Kd.R_below (by (with_reducible repeat (first | apply Kd.R_alloc | apply Kd.R_drewN | apply Kd.R_drew)); exact HO450.out) hb)
           have n3_ := Aside0.mk (Kd.V_below (by (with_reducible repeat (first | apply Kd.V_alloc | apply Kd.V_drewN | apply Kd.V_drew)); exact HO454.out) hb)
           have n4_ := Aside0.mk (blk_below (g := gb426) (o := .cells #[.string a0_0, .int .i64 a0_1, .slice A0_2 l0_2.length c0_2, .int .i64 a0_3, .slice A0_4 l0_4.length c0_4, .int .i64 a0_5] 25 (0, 0)) (by (with_reducible repeat (first | refine blk_drewN ?_ _ | refine blk_drew ?_ | refine blk_alloc ?_ _)); exact BK426.out) hb)
           have n5_ := Aside0.mk (blk_below (g := gb440) (o := .cells #[.string t429, .int .i64 t430, .slice Ao32 t431.length co32, .int .i64 t434, .slice Ao33 t435.length co33, .int .i64 t438] 25 (0, 0)) (by (with_reducible repeat (first | refine blk_drewN ?_ _ | refine blk_drew ?_ | refine blk_alloc ?_ _)); exact BK440.out) hb)
           have n6_ := Aside0.mk (blk_below (g := gb457) (o := .cells #[.string t446, .int .i64 t447, .slice Ao39 t448.length co39, .int .i64 t451, .slice Ao40 t452.length co40, .int .i64 t455] 25 (0, 0)) (by (with_reducible repeat (first | refine blk_drewN ?_ _ | refine blk_drew ?_ | refine blk_alloc ?_ _)); exact BK457.out) hb)
           have n7_ := Aside0.mk (below_step (by repeat (first | (with_reducible first | exact HB.out | apply below_alloc | apply pw_below_drewN | apply below_drew1 | refine below_set ?_ GE426.out | refine below_set ?_ GE440.out | refine below_set ?_ GE457.out) | exact HB.out)) hb)
           clear HO433
           clear HO437
           clear HO450
           clear HO454
           clear BK426
           clear BK440
           clear BK457
           clear HB
           have HO433 := n0_
           have HO437 := n1_
           have HO450 := n2_
           have HO454 := n3_
           have BK426 := n4_
           have BK440 := n5_
           have BK457 := n6_
           have HB := n7_
           clear n0_ n1_ n2_ n3_ n4_ n5_ n6_ n7_
           (try clear hb)
           (try clear hb2)
           (try clear hk)
           (try clear hi)
           refine hK.out _ _ ⟨(blk_cell BK440.out 0).trans rfl, (blk_cell BK440.out 1).trans rfl, (blk_cell BK440.out 2).trans rfl, (blk_cell BK440.out 3).trans rfl, (blk_cell BK440.out 4).trans rfl, (blk_cell BK440.out 5).trans rfl, (blk_cell BK457.out 0).trans rfl, (blk_cell BK457.out 1).trans rfl, (blk_cell BK457.out 2).trans rfl, (blk_cell BK457.out 3).trans rfl, (blk_cell BK457.out 4).trans rfl, (blk_cell BK457.out 5).trans rfl, (blk_cell BK426.out 0).trans rfl, (blk_cell BK426.out 1).trans rfl, (blk_cell BK426.out 2).trans rfl, (blk_cell BK426.out 3).trans rfl, (blk_cell BK426.out 4).trans rfl, (blk_cell BK426.out 5).trans rfl⟩ (fun hHeld => ?_)
           clear hK K
           refine norm_ (a' := ?_) ?_ ?_
           rotate_left
           ·show Act.put _ (some 75) _ = _
            simp only [Act.put, List.setIfInBounds_toArray, List.set_cons_zero, List.set_cons_succ, i64_w, i32_w]
            rfl
           refine pure_ (i := 31) (N := some 76) (v := ?_) (a' := ?_) #[true, true, true, true, true, true, true, true, true, true, true, true, true, true, true, true, true, true, true, true, true, true, true, true, true, true, true, true, true, true, true, true, false, false, false, false, false, false, false, false, false, false, false] rfl rfl (any_of HT_.out (by kernel_rfl)) (fun _ _ _ h => h) (Or.inl ⟨by rfl, ?_⟩) ?_ ?_
           rotate_left
           ·intro w'
            go_simp
            with_reducible rfl
           rotate_left
           ·simp only [Act.put, List.setIfInBounds_toArray, List.set_cons_zero, List.set_cons_succ, i64_w, i32_w]
            rfl
           refine pure_ (i := 32) (N := some 77) (v := ?_) (a' := ?_) #[true, true, true, true, true, true, true, true, true, true, true, true, true, true, true, true, true, true, true, true, true, true, true, true, true, true, true, true, true, true, true, true, true, false, false, false, false, false, false, false, false, false, false] rfl rfl (any_of HT_.out (by kernel_rfl)) (fun _ _ _ h => h) (Or.inl ⟨by rfl, ?_⟩) ?_ ?_
           rotate_left
           ·intro w'
            go_simp
            with_reducible rfl
           rotate_left
           ·simp only [Act.put, List.setIfInBounds_toArray, List.set_cons_zero, List.set_cons_succ, i64_w, i32_w]
            rfl
           refine take_ (i := 33) (N := some 78) (v := ?_) (a' := ?_) #[true, true, true, true, true, true, true, true, true, true, true, true, true, true, true, true, true, true, true, true, true, true, true, true, true, true, true, true, true, true, true, true, true, true, false, false, false, false, false, false, false, false, false] rfl rfl (take_ofW HT_.out HW_.out (by kernel_rfl)) (fun _ _ _ h => h) (Or.inl ⟨by rfl, ?_⟩) hHeld ?_ ?_
           rotate_left
           ·rintro w' ⟨s0, s1, s2, s3, s4, s5, s6, s7, s8, s9, s10, s11, s12, s13, s14, s15, s16, s17⟩
            go_simp
            with_reducible rfl
           rotate_left
           ·simp only [Act.put, List.setIfInBounds_toArray, List.set_cons_zero, List.set_cons_succ, i64_w, i32_w]
            rfl
           refine take_ (i := 34) (N := some 79) (v := ?_) (a' := ?_) #[true, true, true, true, true, true, true, true, true, true, true, true, true, true, true, true, true, true, true, true, true, true, true, true, true, true, true, true, true, true, true, true, true, true, true, false, false, false, false, false, false, false, false] rfl rfl (take_ofW HT_.out HW_.out (by kernel_rfl)) (fun _ _ _ h => h) (Or.inl ⟨by rfl, ?_⟩) hHeld ?_ ?_
           rotate_left
           ·rintro w' ⟨s0, s1, s2, s3, s4, s5, s6, s7, s8, s9, s10, s11, s12, s13, s14, s15, s16, s17⟩
            go_simp
            with_reducible rfl
           rotate_left
           ·simp only [Act.put, List.setIfInBounds_toArray, List.set_cons_zero, List.set_cons_succ, i64_w, i32_w]
            rfl
           refine one_ (i := 35) (N := some 80) #[true, true, true, true, true, true, true, true, true, true, true, true, true, true, true, true, true, true, true, true, true, true, true, true, true, true, true, true, true, true, true, true, true, true, true, true, false, false, false, false, false, false, false] rfl rfl (one_of HT_.out (by kernel_rfl)) (by decide) (fun K hK => ?_)
           refine goes_ Try.func22 (by kernel_rfl) rfl #[.agg #[.string a0_0, .int .i64 a0_1, .slice A0_2 l0_2.length c0_2, .int .i64 a0_3, .slice A0_4 l0_4.length c0_4, .int .i64 a0_5], .agg #[.string t429, .int .i64 t430, .slice Ao32 t431.length co32, .int .i64 t434, .slice Ao33 t435.length co33, .int .i64 t438]] (by rfl) rfl rfl (by (try simp only [List.map_toArray, List.map_cons, List.map_nil]); first | done | rfl | (simp only [List.length_drop, List.length_take]; rfl)) ?_
           with_reducible refine (metric_Equal.calls k a0_0 a0_1 _ _ l0_2 a0_3 _ _ l0_4 a0_5 t429 t430 _ _ t431 t434 _ _ t435 t438 t465 _ ?side1 ?side2 ?side3 ?side4 ?side5 ?side6 ?side7 ?side8 A21.out).mono ?_
           (case side1 => repeat (first | exact (Kd.C_below HR0_2.out HB.out) | (with_reducible refine Kd.C_alloc ?_ _) | (with_reducible refine Kd.C_drewN ?_ _) | (with_reducible refine Kd.C_drew ?_)))
           (case side2 => exact HC0_2.out)
           (case side3 => repeat (first | exact (Kd.C_below HR0_4.out HB.out) | (with_reducible refine Kd.C_alloc ?_ _) | (with_reducible refine Kd.C_drewN ?_ _) | (with_reducible refine Kd.C_drew ?_)))
           (case side4 => exact HC0_4.out)
           (case side5 => repeat (first | exact (Kd.R_reads' HO433.out).2.2 | (with_reducible refine Kd.C_alloc ?_ _) | (with_reducible refine Kd.C_drewN ?_ _) | (with_reducible refine Kd.C_drew ?_)))
           (case side6 => exact (Kd.R_reads' HO433.out).2.1)
           (case side7 => repeat (first | exact (Kd.V_reads' HO437.out).2.2 | (with_reducible refine Kd.C_alloc ?_ _) | (with_reducible refine Kd.C_drewN ?_ _) | (with_reducible refine Kd.C_drew ?_)))
           (case side8 => exact (Kd.V_reads' HO437.out).2.1)
           rintro e w50 ⟨rfl, hb⟩
           refine ⟨_, rfl, ?_⟩
           have n0_ := Aside0.mk (Kd.R_below (by (with_reducible repeat (first | apply Kd.R_alloc | apply Kd.R_drewN | apply Kd.R_drew)); exact HO433.out) hb)
           have n1_ := Aside0.mk (Kd.V_below (by (with_reducible repeat (first | apply Kd.V_alloc | apply Kd.V_drewN | apply Kd.V_drew)); exact HO437.out) hb)
           have n2_ := Aside0.mk (Kd.R_below (by (with_reducible repeat (first | apply Kd.R_alloc | apply Kd.R_drewN | apply Kd.R_drew)); exact HO450.out) hb)
           have n3_ := Aside0.mk (Kd.V_below (by (with_reducible repeat (first | apply Kd.V_alloc | apply Kd.V_drewN | apply Kd.V_drew)); exact HO454.out) hb)
           have n4_ := Aside0.mk (blk_below (g := gb426) (o := .cells #[.string a0_0, .int .i64 a0_1, .slice A0_2 l0_2.length c0_2, .int .i64 a0_3, .slice A0_4 l0_4.length c0_4, .int .i64 a0_5] 25 (0, 0)) (by (with_reducible repeat (first | refine blk_drewN ?_ _ | refine blk_drew ?_ | refine blk_alloc ?_ _)); exact BK426.out) hb)
           have n5_ := Aside0.mk (blk_below (g := gb440) (o := .cells #[.string t429, .int .i64 t430, .slice Ao32 t431.length co32, .int .i64 t434, .slice Ao33 t435.length co33, .int .i64 t438] 25 (0, 0)) (by (with_reducible repeat (first | refine blk_drewN ?_ _ | refine blk_drew ?_ | refine blk_alloc ?_ _)); exact BK440.out) hb)
           have n6_ := Aside0.mk (blk_below (g := gb457) (o := .cells #[.string t446, .int .i64 t447, .slice Ao39 t448.length co39, .int .i64 t451, .slice Ao40 t452.length co40, .int .i64 t455] 25 (0, 0)) (by (with_reducible repeat (first | refine blk_drewN ?_ _ | refine blk_drew ?_ | refine blk_alloc ?_ _)); exact BK457.out) hb)
           have n7_ := Aside0.mk (below_step (by repeat (first | (with_reducible first | exact HB.out | apply below_alloc | apply pw_below_drewN | apply below_drew1 | refine below_set ?_ GE426.out | refine below_set ?_ GE440.out | refine below_set ?_ GE457.out) | exact HB.out)) hb)
           clear HO433
           clear HO437
           clear HO450
           clear HO454
           clear BK426
           clear BK440
           clear BK457
           clear HB
           have HO433 := n0_
           have HO437 := n1_
           have HO450 := n2_
           have HO454 := n3_
           have BK426 := n4_
           have BK440 := n5_
           have BK457 := n6_
           have HB := n7_
           clear n0_ n1_ n2_ n3_ n4_ n5_ n6_ n7_
           (try clear hb)
           (try clear hb2)
           (try clear hk)
           (try clear hi)
           refine hK.out _ _ ⟨(blk_cell BK440.out 0).trans rfl, (blk_cell BK440.out 1).trans rfl, (blk_cell BK440.out 2).trans rfl, (blk_cell BK440.out 3).trans rfl, (blk_cell BK440.out 4).trans rfl, (blk_cell BK440.out 5).trans rfl, (blk_cell BK457.out 0).trans rfl, (blk_cell BK457.out 1).trans rfl, (blk_cell BK457.out 2).trans rfl, (blk_cell BK457.out 3).trans rfl, (blk_cell BK457.out 4).trans rfl, (blk_cell BK457.out 5).trans rfl, (blk_cell BK426.out 0).trans rfl, (blk_cell BK426.out 1).trans rfl, (blk_cell BK426.out 2).trans rfl, (blk_cell BK426.out 3).trans rfl, (blk_cell BK426.out 4).trans rfl, (blk_cell BK426.out 5).trans rfl⟩ (fun hHeld => ?_)
           clear hK K
           refine norm_ (a' := ?_) ?_ ?_
           rotate_left
           ·show Act.put _ (some 80) _ = _
            simp only [Act.put, List.setIfInBounds_toArray, List.set_cons_zero, List.set_cons_succ, i64_w, i32_w]
            rfl
           refine pure_ (i := 36) (N := some 81) (v := ?_) (a' := ?_) #[true, true, true, true, true, true, true, true, true, true, true, true, true, true, true, true, true, true, true, true, true, true, true, true, true, true, true, true, true, true, true, true, true, true, true, true, true, false, false, false, false, false, false] rfl rfl (any_of HT_.out (by kernel_rfl)) (fun _ _ _ h => h) (Or.inl ⟨by rfl, ?_⟩) ?_ ?_
           rotate_left
           ·intro w'
            go_simp
            with_reducible rfl
           rotate_left
           ·simp only [Act.put, List.setIfInBounds_toArray, List.set_cons_zero, List.set_cons_succ, i64_w, i32_w]
            rfl
           refine pure_ (i := 37) (N := some 82) (v := ?_) (a' := ?_) #[true, true, true, true, true, true, true, true, true, true, true, true, true, true, true, true, true, true, true, true, true, true, true, true, true, true, true, true, true, true, true, true, true, true, true, true, true, true, false, false, false, false, false] rfl rfl (any_of HT_.out (by kernel_rfl)) (fun _ _ _ h => h) (Or.inl ⟨by rfl, ?_⟩) ?_ ?_
           rotate_left
           ·intro w'
            go_simp
            with_reducible rfl
           rotate_left
           ·simp only [Act.put, List.setIfInBounds_toArray, List.set_cons_zero, List.set_cons_succ, i64_w, i32_w]
            rfl
           refine pure_ (i := 38) (N := some 83) (v := ?_) (a' := ?_) #[true, true, true, true, true, true, true, true, true, true, true, true, true, true, true, true, true, true, true, true, true, true, true, true, true, true, true, true, true, true, true, true, true, true, true, true, true, true, true, false, false, false, false] rfl rfl (any_of HT_.out (by kernel_rfl)) (fun _ _ _ h => h) (Or.inl ⟨by rfl, ?_⟩) ?_ ?_
           rotate_left
           ·intro w'
            go_simp
            with_reducible rfl
           rotate_left
           ·simp only [Act.put, List.setIfInBounds_toArray, List.set_cons_zero, List.set_cons_succ, i64_w, i32_w]
            rfl
           refine pure_ (i := 39) (N := some 84) (v := ?_) (a' := ?_) #[true, true, true, true, true, true, true, true, true, true, true, true, true, true, true, true, true, true, true, true, true, true, true, true, true, true, true, true, true, true, true, true, true, true, true, true, true, true, true, true, false, false, false] rfl rfl (any_of HT_.out (by kernel_rfl)) (fun _ _ _ h => h) (Or.inl ⟨by rfl, ?_⟩) ?_ ?_
           rotate_left
           ·intro w'
            go_simp
            with_reducible rfl
           rotate_left
           ·simp only [Act.put, List.setIfInBounds_toArray, List.set_cons_zero, List.set_cons_succ, i64_w, i32_w]
            rfl
           refine one_ (i := 40) (N := some 85) #[true, true, true, true, true, true, true, true, true, true, true, true, true, true, true, true, true, true, true, true, true, true, true, true, true, true, true, true, true, true, true, true, true, true, true, true, true, true, true, true, true, false, false] rfl rfl (one_of HT_.out (by kernel_rfl)) (by decide) (fun K hK => ?_)
           refine goes_ Try.func15 (by kernel_rfl) rfl #[] (by rfl) rfl rfl (by (try simp only [List.map_toArray, List.map_cons, List.map_nil]); first | done | rfl | (simp only [List.length_drop, List.length_take]; rfl)) ?_
           with_reducible refine (forebaylaw07_awake.calls k  t466 _ A23.out).mono ?_
           rintro e w51 ⟨rfl, hb⟩
           refine ⟨_, rfl, ?_⟩
           have n0_ := Aside0.mk (Kd.R_below (by (with_reducible repeat (first | apply Kd.R_alloc | apply Kd.R_drewN | apply Kd.R_drew)); exact HO433.out) hb)
           have n1_ := Aside0.mk (Kd.V_below (by (with_reducible repeat (first | apply Kd.V_alloc | apply Kd.V_drewN | apply Kd.V_drew)); exact HO437.out) hb)
           have n2_ := Aside0.mk (Kd.R_below (by (with_reducible repeat (first | apply Kd.R_alloc | apply Kd.R_drewN | apply Kd.R_drew)); exact HO450.out) hb)
           have n3_ := Aside0.mk (Kd.V_below (by (with_reducible repeat (first | apply Kd.V_alloc | apply Kd.V_drewN | apply Kd.V_drew)); exact HO454.out) hb)
           have n4_ := Aside0.mk (blk_below (g := gb426) (o := .cells #[.string a0_0, .int .i64 a0_1, .slice A0_2 l0_2.length c0_2, .int .i64 a0_3, .slice A0_4 l0_4.length c0_4, .int .i64 a0_5] 25 (0, 0)) (by (with_reducible repeat (first | refine blk_drewN ?_ _ | refine blk_drew ?_ | refine blk_alloc ?_ _)); exact BK426.out) hb)
           have n5_ := Aside0.mk (blk_below (g := gb440) (o := .cells #[.string t429, .int .i64 t430, .slice Ao32 t431.length co32, .int .i64 t434, .slice Ao33 t435.length co33, .int .i64 t438] 25 (0, 0)) (by (with_reducible repeat (first | refine blk_drewN ?_ _ | refine blk_drew ?_ | refine blk_alloc ?_ _)); exact BK440.out) hb)
           have n6_ := Aside0.mk (blk_below (g := gb457) (o := .cells #[.string t446, .int .i64 t447, .slice Ao39 t448.length co39, .int .i64 t451, .slice Ao40 t452.length co40, .int .i64 t455] 25 (0, 0)) (by (with_reducible repeat (first | refine blk_drewN ?_ _ | refine blk_drew ?_ | refine blk_alloc ?_ _)); exact BK457.out) hb)
           have n7_ := Aside0.mk (below_step (by repeat (first | (with_reducible first | exact HB.out | apply below_alloc | apply pw_below_drewN | apply below_drew1 | refine below_set ?_ GE426.out | refine below_set ?_ GE440.out | refine below_set ?_ GE457.out) | exact HB.out)) hb)
           clear HO433
           clear HO437
           clear HO450
           clear HO454
           clear BK426
           clear BK440
           clear BK457
           clear HB
           have HO433 := n0_
           have HO437 := n1_
           have HO450 := n2_
           have HO454 := n3_
           have BK426 := n4_
           have BK440 := n5_
           have BK457 := n6_
           have HB := n7_
           clear n0_ n1_ n2_ n3_ n4_ n5_ n6_ n7_
           (try clear hb)
           (try clear hb2)
           (try clear hk)
           (try clear hi)
           refine hK.out _ _ ⟨(blk_cell BK440.out 0).trans rfl, (blk_cell BK440.out 1).trans rfl, (blk_cell BK440.out 2).trans rfl, (blk_cell BK440.out 3).trans rfl, (blk_cell BK440.out 4).trans rfl, (blk_cell BK440.out 5).trans rfl, (blk_cell BK457.out 0).trans rfl, (blk_cell BK457.out 1).trans rfl, (blk_cell BK457.out 2).trans rfl, (blk_cell BK457.out 3).trans rfl, (blk_cell BK457.out 4).trans rfl, (blk_cell BK457.out 5).trans rfl, (blk_cell BK426.out 0).trans rfl, (blk_cell BK426.out 1).trans rfl, (blk_cell BK426.out 2).trans rfl, (blk_cell BK426.out 3).trans rfl, (blk_cell BK426.out 4).trans rfl, (blk_cell BK426.out 5).trans rfl⟩ (fun hHeld => ?_)
           clear hK K
           refine norm_ (a' := ?_) ?_ ?_
           rotate_left
           ·show Act.put _ (some 85) _ = _
            simp only [Act.put, List.setIfInBounds_toArray, List.set_cons_zero, List.set_cons_succ, i64_w, i32_w]
            rfl
           refine pure_ (i := 41) (N := some 86) (v := ?_) (a' := ?_) #[true, true, true, true, true, true, true, true, true, true, true, true, true, true, true, true, true, true, true, true, true, true, true, true, true, true, true, true, true, true, true, true, true, true, true, true, true, true, true, true, true, true, false] rfl rfl (any_of HT_.out (by kernel_rfl)) (fun _ _ _ h => h) (Or.inl ⟨by rfl, ?_⟩) ?_ ?_
           rotate_left
           ·intro w'
            go_simp
            with_reducible rfl
           rotate_left
           ·simp only [Act.put, List.setIfInBounds_toArray, List.set_cons_zero, List.set_cons_succ, i64_w, i32_w]
            rfl
           refine pure_ (i := 42) (N := some 2) (v := ?_) (a' := ?_) #[true, true, true, true, true, true, true, true, true, true, true, true, true, true, true, true, true, true, true, true, true, true, true, true, true, true, true, true, true, true, true, true, true, true, true, true, true, true, true, true, true, true, true] rfl rfl (any_of HT_.out (by kernel_rfl)) (fun _ _ _ h => h) (Or.inl ⟨by rfl, ?_⟩) ?_ ?_
           rotate_left
           ·intro w'
            go_simp
            with_reducible rfl
           rotate_left
           ·simp only [Act.put, List.setIfInBounds_toArray, List.set_cons_zero, List.set_cons_succ, i64_w, i32_w]
            rfl
           refine done_ (done_of HT_.out (by kernel_rfl)) ?_
           try go_wp2
           go_ret
           exact ⟨by first | rfl | (simp [errW_none, errW_some] <;> rfl) | (simp [*, errW_none, errW_some] <;> rfl), by repeat (first | (with_reducible first | exact HB.out | apply below_alloc | apply pw_below_drewN | apply below_drew1 | refine below_set ?_ GE426.out | refine below_set ?_ GE440.out | refine below_set ?_ GE457.out) | exact HB.out)⟩
          ·rw [if_neg c22] at H
           have c22b0 : (t463 == t465) = false := by simpa using c22
           (try (have c22b1 : decide (t463 = t465) = false := by simpa using c22))
           (try (have c22b2 : (t463 == t465) = false := by simpa using c22))
           (try (have c22b3 : ¬ (t463 = t465) := by simpa using c22))
           clear c22
           exact absurd H (by simp)
         ·rw [if_neg c20] at H
          have c20b0 : (t464 == 0) = false := beq_eq_false_iff_ne.mpr c20
          have c20b1 : (t464 != 0) = true := bne_iff_ne.mpr c20
          by_cases c52 : (t463 == false) = true
          ·rw [if_pos c52] at H
           have c52b0 : (t463 == false) = true := c52
           (try (have c52b1 : decide (t463 = false) = true := by simpa using c52))
           (try (have c52b2 : (t463 == false) = true := by simpa using c52))
           clear c52
           replace H := Option.bind_eq_some_iff.mp H
           obtain ⟨t467, A530, H⟩ := H
           replace H : (some t467) = some r := H
           have A53 := Aside0.mk A530
           clear A530
           obtain rfl := Option.some.inj H
           go_enter Try.func8, Try.ntmps8
           try go_wp2_with (first | ((with_reducible refine gate_dst (N := 1) rfl ?_); refine box_event ?hg (N := 1) ?hd (cs := #[.string a0_0, .int .i64 a0_1, .slice A0_2 l0_2.length c0_2, .int .i64 a0_3, .slice A0_4 l0_4.length c0_4, .int .i64 a0_5]) (t := 25) ?hr ?_; (case hd => rfl); (case hg => rfl); (case hr => first | (go_simp; done) | (go_simp; rfl)); intro gb426 hg w54 hbox hb; have n0_ := Aside0.mk (below_step (by repeat (first | (with_reducible first | exact HB.out | apply below_alloc | apply pw_below_drewN | apply below_drew1) | exact HB.out)) hb); have n1_ := Aside0.mk (hbox); have n2_ := Aside0.mk ((by rw [hg]; exact (below_size (by repeat (first | (with_reducible first | exact HB.out | apply below_alloc | apply pw_below_drewN | apply below_drew1) | exact HB.out))) : w.heap.size ≤ gb426)); have n3_ := Aside0.mk ((by rw [hg]; exact (below_size (by repeat (first | (with_reducible first | exact HB.out | apply below_alloc | apply pw_below_drewN | apply below_drew1) | exact HB.out))) : w.heap.size ≤ gb426)); clear HB; have HB := n0_; have BK426 := n1_; have GW426 := n2_; have GE426 := n3_; clear n0_ n1_ n2_ n3_; clear hb hbox hg; have hcz55_0 : w54.cell? ⟨gb426, 0, none⟩ = some (.string a0_0) := (blk_cell BK426.out 0).trans rfl; have hcz55_1 : w54.cell? ⟨gb426, 1, none⟩ = some (.int .i64 a0_1) := (blk_cell BK426.out 1).trans rfl; have hcz55_2 : w54.cell? ⟨gb426, 2, none⟩ = some (.slice A0_2 l0_2.length c0_2) := (blk_cell BK426.out 2).trans rfl; have hcz55_3 : w54.cell? ⟨gb426, 3, none⟩ = some (.int .i64 a0_3) := (blk_cell BK426.out 3).trans rfl; have hcz55_4 : w54.cell? ⟨gb426, 4, none⟩ = some (.slice A0_4 l0_4.length c0_4) := (blk_cell BK426.out 4).trans rfl; have hcz55_5 : w54.cell? ⟨gb426, 5, none⟩ = some (.int .i64 a0_5) := (blk_cell BK426.out 5).trans rfl; have hfz55_0 := blk_frozen BK426.out 0; have hfz55_1 := blk_frozen BK426.out 1; have hfz55_2 := blk_frozen BK426.out 2; have hfz55_3 := blk_frozen BK426.out 3; have hfz55_4 := blk_frozen BK426.out 4; have hfz55_5 := blk_frozen BK426.out 5) | ((with_reducible refine gate_callee (f := 14) rfl ?_); refine goesL_ (some 8) rfl rfl Try.func14 (by kernel_rfl) rfl #[.agg #[.string a0_0, .int .i64 a0_1, .slice A0_2 l0_2.length c0_2, .int .i64 a0_3, .slice A0_4 l0_4.length c0_4, .int .i64 a0_5]] rfl (by (try simp only [List.map_toArray, List.map_cons, List.map_nil]); first | done | rfl | (simp only [List.length_drop, List.length_take]; rfl)) ?_; (with_reducible refine (forebaylaw07_Few.calls k a0_0 a0_1 _ _ l0_2 a0_3 _ _ l0_4 a0_5 true _ ?side1 ?side2 ?side3 ?side4 A2.out).mono ?_); (case side1 => repeat (first | exact (Kd.C_below HR0_2.out HB.out) | (with_reducible refine Kd.C_alloc ?_ _) | (with_reducible refine Kd.C_drewN ?_ _) | (with_reducible refine Kd.C_drew ?_))); (case side2 => exact HC0_2.out); (case side3 => repeat (first | exact (Kd.C_below HR0_4.out HB.out) | (with_reducible refine Kd.C_alloc ?_ _) | (with_reducible refine Kd.C_drewN ?_ _) | (with_reducible refine Kd.C_drew ?_))); (case side4 => exact HC0_4.out); rintro e w56 ⟨rfl, hb⟩; refine ⟨_, rfl, ?_⟩; have n0_ := Aside0.mk (blk_below (g := gb426) (o := .cells #[.string a0_0, .int .i64 a0_1, .slice A0_2 l0_2.length c0_2, .int .i64 a0_3, .slice A0_4 l0_4.length c0_4, .int .i64 a0_5] 25 (0, 0)) (by (with_reducible repeat (first | refine blk_drewN ?_ _ | refine blk_drew ?_ | refine blk_alloc ?_ _)); exact BK426.out) hb); have n1_ := Aside0.mk (below_step (by repeat (first | (with_reducible first | exact HB.out | apply below_alloc | apply pw_below_drewN | apply below_drew1 | refine below_set ?_ GE426.out) | exact HB.out)) hb); clear BK426; clear HB; have BK426 := n0_; have HB := n1_; clear n0_ n1_; (try clear hb); (try clear hb2); (try clear hk); (try clear hi); have hcz57_0 : w56.cell? ⟨gb426, 0, none⟩ = some (.string a0_0) := (blk_cell BK426.out 0).trans rfl; have hcz57_1 : w56.cell? ⟨gb426, 1, none⟩ = some (.int .i64 a0_1) := (blk_cell BK426.out 1).trans rfl; have hcz57_2 : w56.cell? ⟨gb426, 2, none⟩ = some (.slice A0_2 l0_2.length c0_2) := (blk_cell BK426.out 2).trans rfl; have hcz57_3 : w56.cell? ⟨gb426, 3, none⟩ = some (.int .i64 a0_3) := (blk_cell BK426.out 3).trans rfl; have hcz57_4 : w56.cell? ⟨gb426, 4, none⟩ = some (.slice A0_4 l0_4.length c0_4) := (blk_cell BK426.out 4).trans rfl; have hcz57_5 : w56.cell? ⟨gb426, 5, none⟩ = some (.int .i64 a0_5) := (blk_cell BK426.out 5).trans rfl; have hfz57_0 := blk_frozen BK426.out 0; have hfz57_1 := blk_frozen BK426.out 1; have hfz57_2 := blk_frozen BK426.out 2; have hfz57_3 := blk_frozen BK426.out 3; have hfz57_4 := blk_frozen BK426.out 4; have hfz57_5 := blk_frozen BK426.out 5) | ((with_reducible refine gate_callee (f := 18) rfl ?_); refine goesL_ (some 13) rfl rfl Try.func18 (by kernel_rfl) rfl #[.agg #[.string a0_0, .int .i64 a0_1, .slice A0_2 l0_2.length c0_2, .int .i64 a0_3, .slice A0_4 l0_4.length c0_4, .int .i64 a0_5]] rfl (by (try simp only [List.map_toArray, List.map_cons, List.map_nil]); first | done | rfl | (simp only [List.length_drop, List.length_take]; rfl)) ?_; (with_reducible refine (metric_Normal.calls a0_0 a0_1 _ _ l0_2 a0_3 _ _ l0_4 a0_5 t429 t430 t431 t434 t435 t438 t439 _ ?side1 ?side2 ?side3 ?side4 A4.out).mono ?_); (case side1 => repeat (first | exact (Kd.C_below HR0_2.out HB.out) | (with_reducible refine Kd.C_alloc ?_ _) | (with_reducible refine Kd.C_drewN ?_ _) | (with_reducible refine Kd.C_drew ?_))); (case side2 => exact HC0_2.out); (case side3 => repeat (first | exact (Kd.C_below HR0_4.out HB.out) | (with_reducible refine Kd.C_alloc ?_ _) | (with_reducible refine Kd.C_drewN ?_ _) | (with_reducible refine Kd.C_drew ?_))); (case side4 => exact HC0_4.out); rintro e w58 ⟨v432, v436, rfl, ho0, ho1, hb⟩; refine ⟨_, rfl, ?_⟩; have n0_ := Aside0.mk (Kd.R_lower (Kd.R_mono (ok' := fun k_ => True) ho0 (fun _ hk_ => trivial)) (below_size (by repeat (first | (with_reducible first | exact HB.out | apply below_alloc | apply pw_below_drewN | apply below_drew1 | refine below_set ?_ GE426.out) | exact HB.out)))); have n1_ := Aside0.mk (Kd.V_lower (Kd.V_mono (ok' := fun k_ => some k_ ≠ (v432 : Value).ownBlock ∧ k_ ≠ gb426) ho1 (fun k_ hk_ => ⟨hk_.2, (Kd.freshB (g := gb426) (o := .cells #[.string a0_0, .int .i64 a0_1, .slice A0_2 l0_2.length c0_2, .int .i64 a0_3, .slice A0_4 l0_4.length c0_4, .int .i64 a0_5] 25 (0, 0)) (by (with_reducible repeat (first | refine blk_drewN ?_ _ | refine blk_drew ?_ | refine blk_alloc ?_ _)); exact BK426.out) k_ hk_.1)⟩)) (below_size (by repeat (first | (with_reducible first | exact HB.out | apply below_alloc | apply pw_below_drewN | apply below_drew1 | refine below_set ?_ GE426.out) | exact HB.out)))); have n2_ := Aside0.mk (blk_below (g := gb426) (o := .cells #[.string a0_0, .int .i64 a0_1, .slice A0_2 l0_2.length c0_2, .int .i64 a0_3, .slice A0_4 l0_4.length c0_4, .int .i64 a0_5] 25 (0, 0)) (by (with_reducible repeat (first | refine blk_drewN ?_ _ | refine blk_drew ?_ | refine blk_alloc ?_ _)); exact BK426.out) hb); have n3_ := Aside0.mk (below_step (by repeat (first | (with_reducible first | exact HB.out | apply below_alloc | apply pw_below_drewN | apply below_drew1 | refine below_set ?_ GE426.out) | exact HB.out)) hb); clear BK426; clear HB; have HO433 := n0_; have HO437 := n1_; have BK426 := n2_; have HB := n3_; clear n0_ n1_ n2_ n3_; (try clear hb); (try clear hb2); (try clear hk); (try clear hi); (try clear ho0); (try clear ho1)) | ((with_reducible refine gate_dst (N := 3) rfl ?_); refine box_event ?hg (N := 3) ?hd (cs := #[.string (⟨#[]⟩ : ByteArray), .int .i64 0, .slice none 0 0, .int .i64 0, .slice none 0 0, .int .i64 0]) (t := 25) ?hr ?_; (case hd => rfl); (case hg => rfl); (case hr => first | (go_simp; done) | (go_simp; rfl)); intro gb440 hg w59 hbox hb; have n0_ := Aside0.mk (Kd.R_below (by (with_reducible repeat (first | apply Kd.R_alloc | apply Kd.R_drewN | apply Kd.R_drew)); exact HO433.out) hb); have n1_ := Aside0.mk (Kd.V_below (Kd.V_elderB (by (with_reducible repeat (first | apply Kd.V_alloc | apply Kd.V_drewN | apply Kd.V_drew)); exact HO437.out) gb440 (Nat.le_of_eq hg.symm)) hb); have n2_ := Aside0.mk (blk_below (g := gb426) (o := .cells #[.string a0_0, .int .i64 a0_1, .slice A0_2 l0_2.length c0_2, .int .i64 a0_3, .slice A0_4 l0_4.length c0_4, .int .i64 a0_5] 25 (0, 0)) (by (with_reducible repeat (first | refine blk_drewN ?_ _ | refine blk_drew ?_ | refine blk_alloc ?_ _)); exact BK426.out) hb); have n3_ := Aside0.mk (below_step (by repeat (first | (with_reducible first | exact HB.out | apply below_alloc | apply pw_below_drewN | apply below_drew1 | refine below_set ?_ GE426.out) | exact HB.out)) hb); have n4_ := Aside0.mk (hbox); have n5_ := Aside0.mk ((by rw [hg]; exact (below_size (by repeat (first | (with_reducible first | exact HB.out | apply below_alloc | apply pw_below_drewN | apply below_drew1 | refine below_set ?_ GE426.out) | exact HB.out))) : w.heap.size ≤ gb440)); have n6_ := Aside0.mk ((by rw [hg]; exact (below_size (by repeat (first | (with_reducible first | exact HB.out | apply below_alloc | apply pw_below_drewN | apply below_drew1 | refine below_set ?_ GE426.out) | exact HB.out))) : w.heap.size ≤ gb440)); have n7_ := Aside0.mk ((by rw [hg]; exact Nat.ne_of_lt (blk_lt (g := gb426) (o := .cells #[.string a0_0, .int .i64 a0_1, .slice A0_2 l0_2.length c0_2, .int .i64 a0_3, .slice A0_4 l0_4.length c0_4, .int .i64 a0_5] 25 (0, 0)) (by (with_reducible repeat (first | refine blk_drewN ?_ _ | refine blk_drew ?_ | refine blk_alloc ?_ _)); exact BK426.out)) : gb426 ≠ gb440)); have n8_ := Aside0.mk ((by rw [hg]; exact Nat.ne_of_gt (blk_lt (g := gb426) (o := .cells #[.string a0_0, .int .i64 a0_1, .slice A0_2 l0_2.length c0_2, .int .i64 a0_3, .slice A0_4 l0_4.length c0_4, .int .i64 a0_5] 25 (0, 0)) (by (with_reducible repeat (first | refine blk_drewN ?_ _ | refine blk_drew ?_ | refine blk_alloc ?_ _)); exact BK426.out)) : gb440 ≠ gb426)); clear HO433; clear HO437; clear BK426; clear HB; have HO433 := n0_; have HO437 := n1_; have BK426 := n2_; have HB := n3_; have BK440 := n4_; have GW440 := n5_; have GE440 := n6_; have NB426_440 := n7_; have NB440_426 := n8_; clear n0_ n1_ n2_ n3_ n4_ n5_ n6_ n7_ n8_; clear hb hbox hg; have hnb60 := NB440_426.out; have hnc60 := NB426_440.out; have hcz61_0 : w59.cell? ⟨gb440, 0, none⟩ = some (.string (⟨#[]⟩ : ByteArray)) := (blk_cell BK440.out 0).trans rfl; have hcz61_1 : w59.cell? ⟨gb440, 1, none⟩ = some (.int .i64 0) := (blk_cell BK440.out 1).trans rfl; have hcz61_2 : w59.cell? ⟨gb440, 2, none⟩ = some (.slice none 0 0) := (blk_cell BK440.out 2).trans rfl; have hcz61_3 : w59.cell? ⟨gb440, 3, none⟩ = some (.int .i64 0) := (blk_cell BK440.out 3).trans rfl; have hcz61_4 : w59.cell? ⟨gb440, 4, none⟩ = some (.slice none 0 0) := (blk_cell BK440.out 4).trans rfl; have hcz61_5 : w59.cell? ⟨gb440, 5, none⟩ = some (.int .i64 0) := (blk_cell BK440.out 5).trans rfl; have hfz61_0 := blk_frozen BK440.out 0; have hfz61_1 := blk_frozen BK440.out 1; have hfz61_2 := blk_frozen BK440.out 2; have hfz61_3 := blk_frozen BK440.out 3; have hfz61_4 := blk_frozen BK440.out 4; have hfz61_5 := blk_frozen BK440.out 5; obtain ⟨Ao62, co62, eo62⟩ := Kd.R_slice HO433.out; subst eo62; obtain ⟨Ao63, co63, eo63⟩ := Kd.V_slice HO437.out; subst eo63) | ((with_reducible refine gate_callee (f := 18) rfl ?_); refine goesL_ (some 42) rfl rfl Try.func18 (by kernel_rfl) rfl #[.agg #[.string t429, .int .i64 t430, .slice Ao62 t431.length co62, .int .i64 t434, .slice Ao63 t435.length co63, .int .i64 t438]] rfl (by (try simp only [List.map_toArray, List.map_cons, List.map_nil]); first | done | rfl | (simp only [List.length_drop, List.length_take]; rfl)) ?_; (with_reducible refine (metric_Normal.calls t429 t430 _ _ t431 t434 _ _ t435 t438 t446 t447 t448 t451 t452 t455 t456 _ ?side1 ?side2 ?side3 ?side4 A6.out).mono ?_); (case side1 => refine (Kd.R_reads' (e := 40) (base := w.heap.size) (ok := fun k_ => True) (n := t431.length) (c := co62) ?_).2.2; exact (by (with_reducible repeat (first | apply Kd.R_alloc | apply Kd.R_drewN | apply Kd.R_drew)); exact (Kd.R_mono (Kd.R_far (p := ⟨gb440, 5, none⟩) (Kd.R_far (p := ⟨gb440, 4, none⟩) (Kd.R_far (p := ⟨gb440, 3, none⟩) (Kd.R_far (p := ⟨gb440, 2, none⟩) (Kd.R_far (p := ⟨gb440, 1, none⟩) (Kd.R_far (p := ⟨gb440, 0, none⟩) (Kd.R_types HO433.out BK440.out (by decide)) (fun _ hk => hk.2) (.string t429)) (fun _ hk => hk.2) (.int .i64 t430)) (fun _ hk => hk.2) (.slice Ao62 t431.length co62)) (fun _ hk => hk.2) (.int .i64 t434)) (fun _ hk => hk.2) (.slice Ao63 t435.length co63)) (fun _ hk => hk.2) (.int .i64 t438)) (fun _ h_ => h_.1)))); (case side2 => exact (Kd.R_reads' HO433.out).2.1); (case side3 => refine (Kd.V_reads' (e := 37) (base := w.heap.size) (ok := fun k_ => ((some k_ ≠ (.slice Ao62 t431.length co62 : Value).ownBlock ∧ k_ ≠ gb426) ∧ k_ ≠ gb440)) (n := t435.length) (c := co63) ?_).2.2; exact (by (with_reducible repeat (first | apply Kd.V_alloc | apply Kd.V_drewN | apply Kd.V_drew)); exact (Kd.V_mono (Kd.V_far (p := ⟨gb440, 5, none⟩) (Kd.V_far (p := ⟨gb440, 4, none⟩) (Kd.V_far (p := ⟨gb440, 3, none⟩) (Kd.V_far (p := ⟨gb440, 2, none⟩) (Kd.V_far (p := ⟨gb440, 1, none⟩) (Kd.V_far (p := ⟨gb440, 0, none⟩) (Kd.V_mono HO437.out (fun k_ hk => (⟨hk, hk.2⟩ : _ ∧ k_ ≠ gb440))) (fun _ hk => hk.2) (.string t429)) (fun _ hk => hk.2) (.int .i64 t430)) (fun _ hk => hk.2) (.slice Ao62 t431.length co62)) (fun _ hk => hk.2) (.int .i64 t434)) (fun _ hk => hk.2) (.slice Ao63 t435.length co63)) (fun _ hk => hk.2) (.int .i64 t438)) (fun _ h_ => h_.1)))); (case side4 => exact (Kd.V_reads' HO437.out).2.1); rintro e w64 ⟨v449, v453, rfl, ho0, ho1, hb⟩; refine ⟨_, rfl, ?_⟩; have n0_ := Aside0.mk (Kd.R_elder' (by (with_reducible repeat (first | apply Kd.R_alloc | apply Kd.R_drewN | apply Kd.R_drew)); exact (Kd.R_mono (Kd.R_far (p := ⟨gb440, 5, none⟩) (Kd.R_far (p := ⟨gb440, 4, none⟩) (Kd.R_far (p := ⟨gb440, 3, none⟩) (Kd.R_far (p := ⟨gb440, 2, none⟩) (Kd.R_far (p := ⟨gb440, 1, none⟩) (Kd.R_far (p := ⟨gb440, 0, none⟩) (Kd.R_types HO433.out BK440.out (by decide)) (fun _ hk => hk.2) (.string t429)) (fun _ hk => hk.2) (.int .i64 t430)) (fun _ hk => hk.2) (.slice Ao62 t431.length co62)) (fun _ hk => hk.2) (.int .i64 t434)) (fun _ hk => hk.2) (.slice Ao63 t435.length co63)) (fun _ hk => hk.2) (.int .i64 t438)) (fun _ h_ => h_.1))) (Kd.R_base ho0) hb); have n1_ := Aside0.mk (Kd.V_elder' (by (with_reducible repeat (first | apply Kd.V_alloc | apply Kd.V_drewN | apply Kd.V_drew)); exact (Kd.V_mono (Kd.V_far (p := ⟨gb440, 5, none⟩) (Kd.V_far (p := ⟨gb440, 4, none⟩) (Kd.V_far (p := ⟨gb440, 3, none⟩) (Kd.V_far (p := ⟨gb440, 2, none⟩) (Kd.V_far (p := ⟨gb440, 1, none⟩) (Kd.V_far (p := ⟨gb440, 0, none⟩) (Kd.V_mono HO437.out (fun k_ hk => (⟨hk, hk.2⟩ : _ ∧ k_ ≠ gb440))) (fun _ hk => hk.2) (.string t429)) (fun _ hk => hk.2) (.int .i64 t430)) (fun _ hk => hk.2) (.slice Ao62 t431.length co62)) (fun _ hk => hk.2) (.int .i64 t434)) (fun _ hk => hk.2) (.slice Ao63 t435.length co63)) (fun _ hk => hk.2) (.int .i64 t438)) (fun _ h_ => h_.1))) (Kd.R_base ho0) hb); have n2_ := Aside0.mk (Kd.R_lower (Kd.R_new' (Kd.R_mono (ok' := fun k_ => True) ho0 (fun _ hk_ => trivial)) (Kd.R_lt (by (with_reducible repeat (first | apply Kd.R_alloc | apply Kd.R_drewN | apply Kd.R_drew)); exact (Kd.R_mono (Kd.R_far (p := ⟨gb440, 5, none⟩) (Kd.R_far (p := ⟨gb440, 4, none⟩) (Kd.R_far (p := ⟨gb440, 3, none⟩) (Kd.R_far (p := ⟨gb440, 2, none⟩) (Kd.R_far (p := ⟨gb440, 1, none⟩) (Kd.R_far (p := ⟨gb440, 0, none⟩) (Kd.R_types HO433.out BK440.out (by decide)) (fun _ hk => hk.2) (.string t429)) (fun _ hk => hk.2) (.int .i64 t430)) (fun _ hk => hk.2) (.slice Ao62 t431.length co62)) (fun _ hk => hk.2) (.int .i64 t434)) (fun _ hk => hk.2) (.slice Ao63 t435.length co63)) (fun _ hk => hk.2) (.int .i64 t438)) (fun _ h_ => h_.1))))) (below_size (by repeat (first | (with_reducible first | exact HB.out | apply below_alloc | apply pw_below_drewN | apply below_drew1 | refine below_set ?_ GE426.out | refine below_set ?_ GE440.out) | exact HB.out)))); have n3_ := Aside0.mk (Kd.V_lower (Kd.V_mono (ok' := fun k_ => some k_ ≠ (v449 : Value).ownBlock ∧ some k_ ≠ (.slice Ao62 t431.length co62 : Value).ownBlock ∧ k_ ≠ gb426 ∧ k_ ≠ gb440) ho1 (fun k_ hk_ => ⟨hk_.2, (Kd.fresh' (Kd.R_lt (by (with_reducible repeat (first | apply Kd.R_alloc | apply Kd.R_drewN | apply Kd.R_drew)); exact (Kd.R_mono (Kd.R_far (p := ⟨gb440, 5, none⟩) (Kd.R_far (p := ⟨gb440, 4, none⟩) (Kd.R_far (p := ⟨gb440, 3, none⟩) (Kd.R_far (p := ⟨gb440, 2, none⟩) (Kd.R_far (p := ⟨gb440, 1, none⟩) (Kd.R_far (p := ⟨gb440, 0, none⟩) (Kd.R_types HO433.out BK440.out (by decide)) (fun _ hk => hk.2) (.string t429)) (fun _ hk => hk.2) (.int .i64 t430)) (fun _ hk => hk.2) (.slice Ao62 t431.length co62)) (fun _ hk => hk.2) (.int .i64 t434)) (fun _ hk => hk.2) (.slice Ao63 t435.length co63)) (fun _ hk => hk.2) (.int .i64 t438)) (fun _ h_ => h_.1)))) k_ hk_.1), (Kd.freshB (g := gb426) (o := .cells #[.string a0_0, .int .i64 a0_1, .slice A0_2 l0_2.length c0_2, .int .i64 a0_3, .slice A0_4 l0_4.length c0_4, .int .i64 a0_5] 25 (0, 0)) (by (with_reducible repeat (first | refine blk_drewN ?_ _ | refine blk_drew ?_ | refine blk_alloc ?_ _)); refine blk_far ?_ NB426_440.out _; (with_reducible repeat (first | refine blk_drewN ?_ _ | refine blk_drew ?_ | refine blk_alloc ?_ _)); refine blk_far ?_ NB426_440.out _; (with_reducible repeat (first | refine blk_drewN ?_ _ | refine blk_drew ?_ | refine blk_alloc ?_ _)); refine blk_far ?_ NB426_440.out _; (with_reducible repeat (first | refine blk_drewN ?_ _ | refine blk_drew ?_ | refine blk_alloc ?_ _)); refine blk_far ?_ NB426_440.out _; (with_reducible repeat (first | refine blk_drewN ?_ _ | refine blk_drew ?_ | refine blk_alloc ?_ _)); refine blk_far ?_ NB426_440.out _; (with_reducible repeat (first | refine blk_drewN ?_ _ | refine blk_drew ?_ | refine blk_alloc ?_ _)); refine blk_far ?_ NB426_440.out _; (with_reducible repeat (first | refine blk_drewN ?_ _ | refine blk_drew ?_ | refine blk_alloc ?_ _)); exact BK426.out) k_ hk_.1), (Kd.freshB (g := gb440) (o := .cells #[.string t429, .int .i64 t430, .slice Ao62 t431.length co62, .int .i64 t434, .slice Ao63 t435.length co63, .int .i64 t438] 25 (0, 0)) (by (with_reducible repeat (first | refine blk_drewN ?_ _ | refine blk_drew ?_ | refine blk_alloc ?_ _)); refine blk_put (cs := #[.string t429, .int .i64 t430, .slice Ao62 t431.length co62, .int .i64 t434, .slice Ao63 t435.length co63, .int .i64 0]) ?_ 5 _ rfl; (with_reducible repeat (first | refine blk_drewN ?_ _ | refine blk_drew ?_ | refine blk_alloc ?_ _)); refine blk_put (cs := #[.string t429, .int .i64 t430, .slice Ao62 t431.length co62, .int .i64 t434, .slice none 0 0, .int .i64 0]) ?_ 4 _ rfl; (with_reducible repeat (first | refine blk_drewN ?_ _ | refine blk_drew ?_ | refine blk_alloc ?_ _)); refine blk_put (cs := #[.string t429, .int .i64 t430, .slice Ao62 t431.length co62, .int .i64 0, .slice none 0 0, .int .i64 0]) ?_ 3 _ rfl; (with_reducible repeat (first | refine blk_drewN ?_ _ | refine blk_drew ?_ | refine blk_alloc ?_ _)); refine blk_put (cs := #[.string t429, .int .i64 t430, .slice none 0 0, .int .i64 0, .slice none 0 0, .int .i64 0]) ?_ 2 _ rfl; (with_reducible repeat (first | refine blk_drewN ?_ _ | refine blk_drew ?_ | refine blk_alloc ?_ _)); refine blk_put (cs := #[.string t429, .int .i64 0, .slice none 0 0, .int .i64 0, .slice none 0 0, .int .i64 0]) ?_ 1 _ rfl; (with_reducible repeat (first | refine blk_drewN ?_ _ | refine blk_drew ?_ | refine blk_alloc ?_ _)); refine blk_put (cs := #[.string (⟨#[]⟩ : ByteArray), .int .i64 0, .slice none 0 0, .int .i64 0, .slice none 0 0, .int .i64 0]) ?_ 0 _ rfl; (with_reducible repeat (first | refine blk_drewN ?_ _ | refine blk_drew ?_ | refine blk_alloc ?_ _)); exact BK440.out) k_ hk_.1)⟩)) (below_size (by repeat (first | (with_reducible first | exact HB.out | apply below_alloc | apply pw_below_drewN | apply below_drew1 | refine below_set ?_ GE426.out | refine below_set ?_ GE440.out) | exact HB.out)))); have n4_ := Aside0.mk (blk_below (g := gb426) (o := .cells #[.string a0_0, .int .i64 a0_1, .slice A0_2 l0_2.length c0_2, .int .i64 a0_3, .slice A0_4 l0_4.length c0_4, .int .i64 a0_5] 25 (0, 0)) (by (with_reducible repeat (first | refine blk_drewN ?_ _ | refine blk_drew ?_ | refine blk_alloc ?_ _)); refine blk_far ?_ NB426_440.out _; (with_reducible repeat (first | refine blk_drewN ?_ _ | refine blk_drew ?_ | refine blk_alloc ?_ _)); refine blk_far ?_ NB426_440.out _; (with_reducible repeat (first | refine blk_drewN ?_ _ | refine blk_drew ?_ | refine blk_alloc ?_ _)); refine blk_far ?_ NB426_440.out _; (with_reducible repeat (first | refine blk_drewN ?_ _ | refine blk_drew ?_ | refine blk_alloc ?_ _)); refine blk_far ?_ NB426_440.out _; (with_reducible repeat (first | refine blk_drewN ?_ _ | refine blk_drew ?_ | refine blk_alloc ?_ _)); refine blk_far ?_ NB426_440.out _; (with_reducible repeat (first | refine blk_drewN ?_ _ | refine blk_drew ?_ | refine blk_alloc ?_ _)); refine blk_far ?_ NB426_440.out _; (with_reducible repeat (first | refine blk_drewN ?_ _ | refine blk_drew ?_ | refine blk_alloc ?_ _)); exact BK426.out) hb); have n5_ := Aside0.mk (blk_below (g := gb440) (o := .cells #[.string t429, .int .i64 t430, .slice Ao62 t431.length co62, .int .i64 t434, .slice Ao63 t435.length co63, .int .i64 t438] 25 (0, 0)) (by (with_reducible repeat (first | refine blk_drewN ?_ _ | refine blk_drew ?_ | refine blk_alloc ?_ _)); refine blk_put (cs := #[.string t429, .int .i64 t430, .slice Ao62 t431.length co62, .int .i64 t434, .slice Ao63 t435.length co63, .int .i64 0]) ?_ 5 _ rfl; (with_reducible repeat (first | refine blk_drewN ?_ _ | refine blk_drew ?_ | refine blk_alloc ?_ _)); refine blk_put (cs := #[.string t429, .int .i64 t430, .slice Ao62 t431.length co62, .int .i64 t434, .slice none 0 0, .int .i64 0]) ?_ 4 _ rfl; (with_reducible repeat (first | refine blk_drewN ?_ _ | refine blk_drew ?_ | refine blk_alloc ?_ _)); refine blk_put (cs := #[.string t429, .int .i64 t430, .slice Ao62 t431.length co62, .int .i64 0, .slice none 0 0, .int .i64 0]) ?_ 3 _ rfl; (with_reducible repeat (first | refine blk_drewN ?_ _ | refine blk_drew ?_ | refine blk_alloc ?_ _)); refine blk_put (cs := #[.string t429, .int .i64 t430, .slice none 0 0, .int .i64 0, .slice none 0 0, .int .i64 0]) ?_ 2 _ rfl; (with_reducible repeat (first | refine blk_drewN ?_ _ | refine blk_drew ?_ | refine blk_alloc ?_ _)); refine blk_put (cs := #[.string t429, .int .i64 0, .slice none 0 0, .int .i64 0, .slice none 0 0, .int .i64 0]) ?_ 1 _ rfl; (with_reducible repeat (first | refine blk_drewN ?_ _ | refine blk_drew ?_ | refine blk_alloc ?_ _)); refine blk_put (cs := #[.string (⟨#[]⟩ : ByteArray), .int .i64 0, .slice none 0 0, .int .i64 0, .slice none 0 0, .int .i64 0]) ?_ 0 _ rfl; (with_reducible repeat (first | refine blk_drewN ?_ _ | refine blk_drew ?_ | refine blk_alloc ?_ _)); exact BK440.out) hb); have n6_ := Aside0.mk (below_step (by repeat (first | (with_reducible first | exact HB.out | apply below_alloc | apply pw_below_drewN | apply below_drew1 | refine below_set ?_ GE426.out | refine below_set ?_ GE440.out) | exact HB.out)) hb); clear HO433; clear HO437; clear BK426; clear BK440; clear HB; have HO433 := n0_; have HO437 := n1_; have HO450 := n2_; have HO454 := n3_; have BK426 := n4_; have BK440 := n5_; have HB := n6_; clear n0_ n1_ n2_ n3_ n4_ n5_ n6_; (try clear hb); (try clear hb2); (try clear hk); (try clear hi); (try clear ho0); (try clear ho1)) | ((with_reducible refine gate_dst (N := 5) rfl ?_); refine box_event ?hg (N := 5) ?hd (cs := #[.string (⟨#[]⟩ : ByteArray), .int .i64 0, .slice none 0 0, .int .i64 0, .slice none 0 0, .int .i64 0]) (t := 25) ?hr ?_; (case hd => rfl); (case hg => rfl); (case hr => first | (go_simp; done) | (go_simp; rfl)); intro gb457 hg w65 hbox hb; have n0_ := Aside0.mk (Kd.R_below (by (with_reducible repeat (first | apply Kd.R_alloc | apply Kd.R_drewN | apply Kd.R_drew)); exact HO433.out) hb); have n1_ := Aside0.mk (Kd.V_below (Kd.V_elderB (by (with_reducible repeat (first | apply Kd.V_alloc | apply Kd.V_drewN | apply Kd.V_drew)); exact HO437.out) gb457 (Nat.le_of_eq hg.symm)) hb); have n2_ := Aside0.mk (Kd.R_below (by (with_reducible repeat (first | apply Kd.R_alloc | apply Kd.R_drewN | apply Kd.R_drew)); exact HO450.out) hb); have n3_ := Aside0.mk (Kd.V_below (Kd.V_elderB (by (with_reducible repeat (first | apply Kd.V_alloc | apply Kd.V_drewN | apply Kd.V_drew)); exact HO454.out) gb457 (Nat.le_of_eq hg.symm)) hb); have n4_ := Aside0.mk (blk_below (g := gb426) (o := .cells #[.string a0_0, .int .i64 a0_1, .slice A0_2 l0_2.length c0_2, .int .i64 a0_3, .slice A0_4 l0_4.length c0_4, .int .i64 a0_5] 25 (0, 0)) (by (with_reducible repeat (first | refine blk_drewN ?_ _ | refine blk_drew ?_ | refine blk_alloc ?_ _)); exact BK426.out) hb); have n5_ := Aside0.mk (blk_below (g := gb440) (o := .cells #[.string t429, .int .i64 t430, .slice Ao62 t431.length co62, .int .i64 t434, .slice Ao63 t435.length co63, .int .i64 t438] 25 (0, 0)) (by (with_reducible repeat (first | refine blk_drewN ?_ _ | refine blk_drew ?_ | refine blk_alloc ?_ _)); exact BK440.out) hb); have n6_ := Aside0.mk (below_step (by repeat (first | (with_reducible first | exact HB.out | apply below_alloc | apply pw_below_drewN | apply below_drew1 | refine below_set ?_ GE426.out | refine below_set ?_ GE440.out) | exact HB.out)) hb); have n7_ := Aside0.mk (hbox); have n8_ := Aside0.mk ((by rw [hg]; exact (below_size (by repeat (first | (with_reducible first | exact HB.out | apply below_alloc | apply pw_below_drewN | apply below_drew1 | refine below_set ?_ GE426.out | refine below_set ?_ GE440.out) | exact HB.out))) : w.heap.size ≤ gb457)); have n9_ := Aside0.mk ((by rw [hg]; exact (below_size (by repeat (first | (with_reducible first | exact HB.out | apply below_alloc | apply pw_below_drewN | apply below_drew1 | refine below_set ?_ GE426.out | refine below_set ?_ GE440.out) | exact HB.out))) : w.heap.size ≤ gb457)); have n10_ := Aside0.mk ((by rw [hg]; exact Nat.ne_of_lt (blk_lt (g := gb426) (o := .cells #[.string a0_0, .int .i64 a0_1, .slice A0_2 l0_2.length c0_2, .int .i64 a0_3, .slice A0_4 l0_4.length c0_4, .int .i64 a0_5] 25 (0, 0)) (by (with_reducible repeat (first | refine blk_drewN ?_ _ | refine blk_drew ?_ | refine blk_alloc ?_ _)); exact BK426.out)) : gb426 ≠ gb457)); have n11_ := Aside0.mk ((by rw [hg]; exact Nat.ne_of_gt (blk_lt (g := gb426) (o := .cells #[.string a0_0, .int .i64 a0_1, .slice A0_2 l0_2.length c0_2, .int .i64 a0_3, .slice A0_4 l0_4.length c0_4, .int .i64 a0_5] 25 (0, 0)) (by (with_reducible repeat (first | refine blk_drewN ?_ _ | refine blk_drew ?_ | refine blk_alloc ?_ _)); exact BK426.out)) : gb457 ≠ gb426)); have n12_ := Aside0.mk ((by rw [hg]; exact Nat.ne_of_lt (blk_lt (g := gb440) (o := .cells #[.string t429, .int .i64 t430, .slice Ao62 t431.length co62, .int .i64 t434, .slice Ao63 t435.length co63, .int .i64 t438] 25 (0, 0)) (by (with_reducible repeat (first | refine blk_drewN ?_ _ | refine blk_drew ?_ | refine blk_alloc ?_ _)); exact BK440.out)) : gb440 ≠ gb457)); have n13_ := Aside0.mk ((by rw [hg]; exact Nat.ne_of_gt (blk_lt (g := gb440) (o := .cells #[.string t429, .int .i64 t430, .slice Ao62 t431.length co62, .int .i64 t434, .slice Ao63 t435.length co63, .int .i64 t438] 25 (0, 0)) (by (with_reducible repeat (first | refine blk_drewN ?_ _ | refine blk_drew ?_ | refine blk_alloc ?_ _)); exact BK440.out)) : gb457 ≠ gb440)); clear HO433; clear HO437; clear HO450; clear HO454; clear BK426; clear BK440; clear HB; have HO433 := n0_; have HO437 := n1_; have HO450 := n2_; have HO454 := n3_; have BK426 := n4_; have BK440 := n5_; have HB := n6_; have BK457 := n7_; have GW457 := n8_; have GE457 := n9_; have NB426_457 := n10_; have NB457_426 := n11_; have NB440_457 := n12_; have NB457_440 := n13_; clear n0_ n1_ n2_ n3_ n4_ n5_ n6_ n7_ n8_ n9_ n10_ n11_ n12_ n13_; clear hb hbox hg; have hnb66 := NB457_426.out; have hnc66 := NB426_457.out; have hnb67 := NB457_440.out; have hnc67 := NB440_457.out; have hcz68_0 : w65.cell? ⟨gb457, 0, none⟩ = some (.string (⟨#[]⟩ : ByteArray)) := (blk_cell BK457.out 0).trans rfl; have hcz68_1 : w65.cell? ⟨gb457, 1, none⟩ = some (.int .i64 0) := (blk_cell BK457.out 1).trans rfl; have hcz68_2 : w65.cell? ⟨gb457, 2, none⟩ = some (.slice none 0 0) := (blk_cell BK457.out 2).trans rfl; have hcz68_3 : w65.cell? ⟨gb457, 3, none⟩ = some (.int .i64 0) := (blk_cell BK457.out 3).trans rfl; have hcz68_4 : w65.cell? ⟨gb457, 4, none⟩ = some (.slice none 0 0) := (blk_cell BK457.out 4).trans rfl; have hcz68_5 : w65.cell? ⟨gb457, 5, none⟩ = some (.int .i64 0) := (blk_cell BK457.out 5).trans rfl; have hfz68_0 := blk_frozen BK457.out 0; have hfz68_1 := blk_frozen BK457.out 1; have hfz68_2 := blk_frozen BK457.out 2; have hfz68_3 := blk_frozen BK457.out 3; have hfz68_4 := blk_frozen BK457.out 4; have hfz68_5 := blk_frozen BK457.out 5; obtain ⟨Ao69, co69, eo69⟩ := Kd.R_slice HO450.out; subst eo69; obtain ⟨Ao70, co70, eo70⟩ := Kd.V_slice HO454.out; subst eo70))
           have n0_ : Aside0 (Kd.R k40 40 ((((((w65.setCell ⟨gb457, 0, none⟩ (.string t446)).setCell ⟨gb457, 1, none⟩ (.int .i64 t447)).setCell ⟨gb457, 2, none⟩ (.slice Ao69 t448.length co69)).setCell ⟨gb457, 3, none⟩ (.int .i64 t451)).setCell ⟨gb457, 4, none⟩ (.slice Ao70 t452.length co70)).setCell ⟨gb457, 5, none⟩ (.int .i64 t455)) w.heap.size (fun k_ => some k_ ≠ (.slice Ao69 t448.length co69 : Value).ownBlock) (.slice Ao62 t431.length co62) t431) := ⟨by (with_reducible repeat (first | apply Kd.R_alloc | apply Kd.R_drewN | apply Kd.R_drew)); exact Kd.R_mono (Kd.R_far (p := ⟨gb457, 5, none⟩) (Kd.R_far (p := ⟨gb457, 4, none⟩) (Kd.R_far (p := ⟨gb457, 3, none⟩) (Kd.R_far (p := ⟨gb457, 2, none⟩) (Kd.R_far (p := ⟨gb457, 1, none⟩) (Kd.R_far (p := ⟨gb457, 0, none⟩) (Kd.R_types HO433.out BK457.out (by decide)) (fun _ hk => hk.2) (.string t446)) (fun _ hk => hk.2) (.int .i64 t447)) (fun _ hk => hk.2) (.slice Ao69 t448.length co69)) (fun _ hk => hk.2) (.int .i64 t451)) (fun _ hk => hk.2) (.slice Ao70 t452.length co70)) (fun _ hk => hk.2) (.int .i64 t455)) (fun _ hk => hk.1.2)⟩
           have n1_ : Aside0 (Kd.V k37 37 ((((((w65.setCell ⟨gb457, 0, none⟩ (.string t446)).setCell ⟨gb457, 1, none⟩ (.int .i64 t447)).setCell ⟨gb457, 2, none⟩ (.slice Ao69 t448.length co69)).setCell ⟨gb457, 3, none⟩ (.int .i64 t451)).setCell ⟨gb457, 4, none⟩ (.slice Ao70 t452.length co70)).setCell ⟨gb457, 5, none⟩ (.int .i64 t455)) w.heap.size (fun k_ => some k_ ≠ (.slice Ao62 t431.length co62 : Value).ownBlock ∧ some k_ ≠ (.slice Ao69 t448.length co69 : Value).ownBlock ∧ k_ ≠ gb426 ∧ k_ ≠ gb440 ∧ k_ ≠ gb457) (.slice Ao63 t435.length co63) t435) := ⟨by (with_reducible repeat (first | apply Kd.V_alloc | apply Kd.V_drewN | apply Kd.V_drew)); exact Kd.V_mono (Kd.V_far (p := ⟨gb457, 5, none⟩) (Kd.V_far (p := ⟨gb457, 4, none⟩) (Kd.V_far (p := ⟨gb457, 3, none⟩) (Kd.V_far (p := ⟨gb457, 2, none⟩) (Kd.V_far (p := ⟨gb457, 1, none⟩) (Kd.V_far (p := ⟨gb457, 0, none⟩) (Kd.V_mono HO437.out (fun k_ hk => (⟨hk, hk.2⟩ : _ ∧ k_ ≠ gb457))) (fun _ hk => hk.2) (.string t446)) (fun _ hk => hk.2) (.int .i64 t447)) (fun _ hk => hk.2) (.slice Ao69 t448.length co69)) (fun _ hk => hk.2) (.int .i64 t451)) (fun _ hk => hk.2) (.slice Ao70 t452.length co70)) (fun _ hk => hk.2) (.int .i64 t455)) (fun _ hk => ⟨hk.1.1.1.1.1, ⟨hk.1.1.2, ⟨hk.1.1.1.1.2, ⟨hk.1.1.1.2, hk.1.2⟩⟩⟩⟩)⟩
           have n2_ : Aside0 (Kd.R k40 40 ((((((w65.setCell ⟨gb457, 0, none⟩ (.string t446)).setCell ⟨gb457, 1, none⟩ (.int .i64 t447)).setCell ⟨gb457, 2, none⟩ (.slice Ao69 t448.length co69)).setCell ⟨gb457, 3, none⟩ (.int .i64 t451)).setCell ⟨gb457, 4, none⟩ (.slice Ao70 t452.length co70)).setCell ⟨gb457, 5, none⟩ (.int .i64 t455)) w.heap.size (fun k_ => some k_ ≠ (.slice Ao62 t431.length co62 : Value).ownBlock) (.slice Ao69 t448.length co69) t448) := ⟨by (with_reducible repeat (first | apply Kd.R_alloc | apply Kd.R_drewN | apply Kd.R_drew)); exact Kd.R_mono (Kd.R_far (p := ⟨gb457, 5, none⟩) (Kd.R_far (p := ⟨gb457, 4, none⟩) (Kd.R_far (p := ⟨gb457, 3, none⟩) (Kd.R_far (p := ⟨gb457, 2, none⟩) (Kd.R_far (p := ⟨gb457, 1, none⟩) (Kd.R_far (p := ⟨gb457, 0, none⟩) (Kd.R_types HO450.out BK457.out (by decide)) (fun _ hk => hk.2) (.string t446)) (fun _ hk => hk.2) (.int .i64 t447)) (fun _ hk => hk.2) (.slice Ao69 t448.length co69)) (fun _ hk => hk.2) (.int .i64 t451)) (fun _ hk => hk.2) (.slice Ao70 t452.length co70)) (fun _ hk => hk.2) (.int .i64 t455)) (fun _ hk => hk.1.2)⟩
           have n3_ : Aside0 (Kd.V k37 37 ((((((w65.setCell ⟨gb457, 0, none⟩ (.string t446)).setCell ⟨gb457, 1, none⟩ (.int .i64 t447)).setCell ⟨gb457, 2, none⟩ (.slice Ao69 t448.length co69)).setCell ⟨gb457, 3, none⟩ (.int .i64 t451)).setCell ⟨gb457, 4, none⟩ (.slice Ao70 t452.length co70)).setCell ⟨gb457, 5, none⟩ (.int .i64 t455)) w.heap.size (fun k_ => some k_ ≠ (.slice Ao62 t431.length co62 : Value).ownBlock ∧ some k_ ≠ (.slice Ao69 t448.length co69 : Value).ownBlock ∧ k_ ≠ gb426 ∧ k_ ≠ gb440 ∧ k_ ≠ gb457) (.slice Ao70 t452.length co70) t452) := ⟨by (with_reducible repeat (first | apply Kd.V_alloc | apply Kd.V_drewN | apply Kd.V_drew)); exact Kd.V_mono (Kd.V_far (p := ⟨gb457, 5, none⟩) (Kd.V_far (p := ⟨gb457, 4, none⟩) (Kd.V_far (p := ⟨gb457, 3, none⟩) (Kd.V_far (p := ⟨gb457, 2, none⟩) (Kd.V_far (p := ⟨gb457, 1, none⟩) (Kd.V_far (p := ⟨gb457, 0, none⟩) (Kd.V_mono HO454.out (fun k_ hk => (⟨hk, hk.2⟩ : _ ∧ k_ ≠ gb457))) (fun _ hk => hk.2) (.string t446)) (fun _ hk => hk.2) (.int .i64 t447)) (fun _ hk => hk.2) (.slice Ao69 t448.length co69)) (fun _ hk => hk.2) (.int .i64 t451)) (fun _ hk => hk.2) (.slice Ao70 t452.length co70)) (fun _ hk => hk.2) (.int .i64 t455)) (fun _ hk => ⟨hk.1.1.2.1, ⟨hk.1.1.1, ⟨hk.1.1.2.2.1, ⟨hk.1.1.2.2.2, hk.1.2⟩⟩⟩⟩)⟩
           have n4_ : Aside0 (((((((w65.setCell ⟨gb457, 0, none⟩ (.string t446)).setCell ⟨gb457, 1, none⟩ (.int .i64 t447)).setCell ⟨gb457, 2, none⟩ (.slice Ao69 t448.length co69)).setCell ⟨gb457, 3, none⟩ (.int .i64 t451)).setCell ⟨gb457, 4, none⟩ (.slice Ao70 t452.length co70)).setCell ⟨gb457, 5, none⟩ (.int .i64 t455)).heap[gb426]? = some (.cells #[.string a0_0, .int .i64 a0_1, .slice A0_2 l0_2.length c0_2, .int .i64 a0_3, .slice A0_4 l0_4.length c0_4, .int .i64 a0_5] 25 (0, 0))) := ⟨by (with_reducible repeat (first | refine blk_drewN ?_ _ | refine blk_drew ?_ | refine blk_alloc ?_ _)); refine blk_far ?_ NB426_457.out _; (with_reducible repeat (first | refine blk_drewN ?_ _ | refine blk_drew ?_ | refine blk_alloc ?_ _)); refine blk_far ?_ NB426_457.out _; (with_reducible repeat (first | refine blk_drewN ?_ _ | refine blk_drew ?_ | refine blk_alloc ?_ _)); refine blk_far ?_ NB426_457.out _; (with_reducible repeat (first | refine blk_drewN ?_ _ | refine blk_drew ?_ | refine blk_alloc ?_ _)); refine blk_far ?_ NB426_457.out _; (with_reducible repeat (first | refine blk_drewN ?_ _ | refine blk_drew ?_ | refine blk_alloc ?_ _)); refine blk_far ?_ NB426_457.out _; (with_reducible repeat (first | refine blk_drewN ?_ _ | refine blk_drew ?_ | refine blk_alloc ?_ _)); refine blk_far ?_ NB426_457.out _; (with_reducible repeat (first | refine blk_drewN ?_ _ | refine blk_drew ?_ | refine blk_alloc ?_ _)); exact BK426.out⟩
           have n5_ : Aside0 (((((((w65.setCell ⟨gb457, 0, none⟩ (.string t446)).setCell ⟨gb457, 1, none⟩ (.int .i64 t447)).setCell ⟨gb457, 2, none⟩ (.slice Ao69 t448.length co69)).setCell ⟨gb457, 3, none⟩ (.int .i64 t451)).setCell ⟨gb457, 4, none⟩ (.slice Ao70 t452.length co70)).setCell ⟨gb457, 5, none⟩ (.int .i64 t455)).heap[gb440]? = some (.cells #[.string t429, .int .i64 t430, .slice Ao62 t431.length co62, .int .i64 t434, .slice Ao63 t435.length co63, .int .i64 t438] 25 (0, 0))) := ⟨by (with_reducible repeat (first | refine blk_drewN ?_ _ | refine blk_drew ?_ | refine blk_alloc ?_ _)); refine blk_far ?_ NB440_457.out _; (with_reducible repeat (first | refine blk_drewN ?_ _ | refine blk_drew ?_ | refine blk_alloc ?_ _)); refine blk_far ?_ NB440_457.out _; (with_reducible repeat (first | refine blk_drewN ?_ _ | refine blk_drew ?_ | refine blk_alloc ?_ _)); refine blk_far ?_ NB440_457.out _; (with_reducible repeat (first | refine blk_drewN ?_ _ | refine blk_drew ?_ | refine blk_alloc ?_ _)); refine blk_far ?_ NB440_457.out _; (with_reducible repeat (first | refine blk_drewN ?_ _ | refine blk_drew ?_ | refine blk_alloc ?_ _)); refine blk_far ?_ NB440_457.out _; (with_reducible repeat (first | refine blk_drewN ?_ _ | refine blk_drew ?_ | refine blk_alloc ?_ _)); refine blk_far ?_ NB440_457.out _; (with_reducible repeat (first | refine blk_drewN ?_ _ | refine blk_drew ?_ | refine blk_alloc ?_ _)); exact BK440.out⟩
           have n6_ : Aside0 (((((((w65.setCell ⟨gb457, 0, none⟩ (.string t446)).setCell ⟨gb457, 1, none⟩ (.int .i64 t447)).setCell ⟨gb457, 2, none⟩ (.slice Ao69 t448.length co69)).setCell ⟨gb457, 3, none⟩ (.int .i64 t451)).setCell ⟨gb457, 4, none⟩ (.slice Ao70 t452.length co70)).setCell ⟨gb457, 5, none⟩ (.int .i64 t455)).heap[gb457]? = some (.cells #[.string t446, .int .i64 t447, .slice Ao69 t448.length co69, .int .i64 t451, .slice Ao70 t452.length co70, .int .i64 t455] 25 (0, 0))) := ⟨by (with_reducible repeat (first | refine blk_drewN ?_ _ | refine blk_drew ?_ | refine blk_alloc ?_ _)); refine blk_put (cs := #[.string t446, .int .i64 t447, .slice Ao69 t448.length co69, .int .i64 t451, .slice Ao70 t452.length co70, .int .i64 0]) ?_ 5 _ rfl; (with_reducible repeat (first | refine blk_drewN ?_ _ | refine blk_drew ?_ | refine blk_alloc ?_ _)); refine blk_put (cs := #[.string t446, .int .i64 t447, .slice Ao69 t448.length co69, .int .i64 t451, .slice none 0 0, .int .i64 0]) ?_ 4 _ rfl; (with_reducible repeat (first | refine blk_drewN ?_ _ | refine blk_drew ?_ | refine blk_alloc ?_ _)); refine blk_put (cs := #[.string t446, .int .i64 t447, .slice Ao69 t448.length co69, .int .i64 0, .slice none 0 0, .int .i64 0]) ?_ 3 _ rfl; (with_reducible repeat (first | refine blk_drewN ?_ _ | refine blk_drew ?_ | refine blk_alloc ?_ _)); refine blk_put (cs := #[.string t446, .int .i64 t447, .slice none 0 0, .int .i64 0, .slice none 0 0, .int .i64 0]) ?_ 2 _ rfl; (with_reducible repeat (first | refine blk_drewN ?_ _ | refine blk_drew ?_ | refine blk_alloc ?_ _)); refine blk_put (cs := #[.string t446, .int .i64 0, .slice none 0 0, .int .i64 0, .slice none 0 0, .int .i64 0]) ?_ 1 _ rfl; (with_reducible repeat (first | refine blk_drewN ?_ _ | refine blk_drew ?_ | refine blk_alloc ?_ _)); refine blk_put (cs := #[.string (⟨#[]⟩ : ByteArray), .int .i64 0, .slice none 0 0, .int .i64 0, .slice none 0 0, .int .i64 0]) ?_ 0 _ rfl; (with_reducible repeat (first | refine blk_drewN ?_ _ | refine blk_drew ?_ | refine blk_alloc ?_ _)); exact BK457.out⟩
           have n7_ : Aside0 (Below w.heap.size w ((((((w65.setCell ⟨gb457, 0, none⟩ (.string t446)).setCell ⟨gb457, 1, none⟩ (.int .i64 t447)).setCell ⟨gb457, 2, none⟩ (.slice Ao69 t448.length co69)).setCell ⟨gb457, 3, none⟩ (.int .i64 t451)).setCell ⟨gb457, 4, none⟩ (.slice Ao70 t452.length co70)).setCell ⟨gb457, 5, none⟩ (.int .i64 t455))) := ⟨by repeat (first | (with_reducible first | exact HB.out | apply below_alloc | apply pw_below_drewN | apply below_drew1 | refine below_set ?_ GE426.out | refine below_set ?_ GE440.out | refine below_set ?_ GE457.out) | exact HB.out)⟩
           (try clear HO433)
           (try clear HO437)
           (try clear HO450)
           (try clear HO454)
           (try clear BK426)
           (try clear BK440)
           (try clear BK457)
           (try clear HB)
           generalize ((((((w65.setCell ⟨gb457, 0, none⟩ (.string t446)).setCell ⟨gb457, 1, none⟩ (.int .i64 t447)).setCell ⟨gb457, 2, none⟩ (.slice Ao69 t448.length co69)).setCell ⟨gb457, 3, none⟩ (.int .i64 t451)).setCell ⟨gb457, 4, none⟩ (.slice Ao70 t452.length co70)).setCell ⟨gb457, 5, none⟩ (.int .i64 t455)) = w71 at n0_ n1_ n2_ n3_ n4_ n5_ n6_ n7_ ⊢
           have HO433 := n0_
           have HO437 := n1_
           have HO450 := n2_
           have HO454 := n3_
           have BK426 := n4_
           have BK440 := n5_
           have BK457 := n6_
           have HB := n7_
           clear n0_ n1_ n2_ n3_ n4_ n5_ n6_ n7_
           have n0_ := Aside0.mk (Kd.R_drew HO433.out)
           have n1_ := Aside0.mk (Kd.V_drew HO437.out)
           have n2_ := Aside0.mk (Kd.R_drew HO450.out)
           have n3_ := Aside0.mk (Kd.V_drew HO454.out)
           have n4_ := Aside0.mk (blk_drew BK426.out)
           have n5_ := Aside0.mk (blk_drew BK440.out)
           have n6_ := Aside0.mk (blk_drew BK457.out)
           have n7_ := Aside0.mk (below_drew1 HB.out)
           clear HO433
           clear HO437
           clear HO450
           clear HO454
           clear BK426
           clear BK440
           clear BK457
           clear HB
           have HO433 := n0_
           have HO437 := n1_
           have HO450 := n2_
           have HO454 := n3_
           have BK426 := n4_
           have BK440 := n5_
           have BK457 := n6_
           have HB := n7_
           clear n0_ n1_ n2_ n3_ n4_ n5_ n6_ n7_
           refine start_ (n := 43) (S := fun w' => w'.cell? ⟨gb440, 0, none⟩ = some (.string t429) ∧ w'.cell? ⟨gb440, 1, none⟩ = some (.int .i64 t430) ∧ w'.cell? ⟨gb440, 2, none⟩ = some (.slice Ao62 t431.length co62) ∧ w'.cell? ⟨gb440, 3, none⟩ = some (.int .i64 t434) ∧ w'.cell? ⟨gb440, 4, none⟩ = some (.slice Ao63 t435.length co63) ∧ w'.cell? ⟨gb440, 5, none⟩ = some (.int .i64 t438) ∧ w'.cell? ⟨gb457, 0, none⟩ = some (.string t446) ∧ w'.cell? ⟨gb457, 1, none⟩ = some (.int .i64 t447) ∧ w'.cell? ⟨gb457, 2, none⟩ = some (.slice Ao69 t448.length co69) ∧ w'.cell? ⟨gb457, 3, none⟩ = some (.int .i64 t451) ∧ w'.cell? ⟨gb457, 4, none⟩ = some (.slice Ao70 t452.length co70) ∧ w'.cell? ⟨gb457, 5, none⟩ = some (.int .i64 t455) ∧ w'.cell? ⟨gb426, 0, none⟩ = some (.string a0_0) ∧ w'.cell? ⟨gb426, 1, none⟩ = some (.int .i64 a0_1) ∧ w'.cell? ⟨gb426, 2, none⟩ = some (.slice A0_2 l0_2.length c0_2) ∧ w'.cell? ⟨gb426, 3, none⟩ = some (.int .i64 a0_3) ∧ w'.cell? ⟨gb426, 4, none⟩ = some (.slice A0_4 l0_4.length c0_4) ∧ w'.cell? ⟨gb426, 5, none⟩ = some (.int .i64 a0_5)) (ds := []) #[false, false, false, false, false, false, false, false, false, false, false, false, false, false, false, false, false, false, false, false, false, false, false, false, false, false, false, false, false, false, false, false, false, false, false, false, false, false, false, false, false, false, false] (by kernel_rfl) rfl rfl ⟨(blk_cell BK440.out 0).trans rfl, (blk_cell BK440.out 1).trans rfl, (blk_cell BK440.out 2).trans rfl, (blk_cell BK440.out 3).trans rfl, (blk_cell BK440.out 4).trans rfl, (blk_cell BK440.out 5).trans rfl, (blk_cell BK457.out 0).trans rfl, (blk_cell BK457.out 1).trans rfl, (blk_cell BK457.out 2).trans rfl, (blk_cell BK457.out 3).trans rfl, (blk_cell BK457.out 4).trans rfl, (blk_cell BK457.out 5).trans rfl, (blk_cell BK426.out 0).trans rfl, (blk_cell BK426.out 1).trans rfl, (blk_cell BK426.out 2).trans rfl, (blk_cell BK426.out 3).trans rfl, (blk_cell BK426.out 4).trans rfl, (blk_cell BK426.out 5).trans rfl⟩ (fun hHeld => ?_); refine with_tabW forebaylaw07_MetricOnce.tab7 forebaylaw07_MetricOnce.bits7 (fun HT_ HW_ => ?_)
           generalize w71.drew = w72 at HO433 HO437 HO450 HO454 BK426 BK440 BK457 HB hHeld ⊢
           refine take_ (i := 0) (N := some 45) (v := ?_) (a' := ?_) #[true, false, false, false, false, false, false, false, false, false, false, false, false, false, false, false, false, false, false, false, false, false, false, false, false, false, false, false, false, false, false, false, false, false, false, false, false, false, false, false, false, false, false] rfl rfl (take_ofW HT_.out HW_.out (by kernel_rfl)) (fun _ _ _ h => h) (Or.inl ⟨by rfl, ?_⟩) hHeld ?_ ?_
           rotate_left
           ·rintro w' ⟨s0, s1, s2, s3, s4, s5, s6, s7, s8, s9, s10, s11, s12, s13, s14, s15, s16, s17⟩
            go_simp
            with_reducible rfl
           rotate_left
           ·simp only [Act.put, List.setIfInBounds_toArray, List.set_cons_zero, List.set_cons_succ, i64_w, i32_w]
            rfl
           refine one_ (i := 1) (N := some 46) #[true, true, false, false, false, false, false, false, false, false, false, false, false, false, false, false, false, false, false, false, false, false, false, false, false, false, false, false, false, false, false, false, false, false, false, false, false, false, false, false, false, false, false] rfl rfl (one_of HT_.out (by kernel_rfl)) (by decide) (fun K hK => ?_)
           refine goes_ Try.func16 (by kernel_rfl) rfl #[.agg #[.string t429, .int .i64 t430, .slice Ao62 t431.length co62, .int .i64 t434, .slice Ao63 t435.length co63, .int .i64 t438]] (by rfl) rfl rfl (by (try simp only [List.map_toArray, List.map_cons, List.map_nil]); first | done | rfl | (simp only [List.length_drop, List.length_take]; rfl)) ?_
           with_reducible refine (metric_Check.calls t429 t430 _ _ t431 t434 _ _ t435 t438 t458 _ ?side1 ?side2 ?side3 ?side4 A7.out).mono ?_
           (case side1 => repeat (first | exact (Kd.R_reads' HO433.out).2.2 | (with_reducible refine Kd.C_alloc ?_ _) | (with_reducible refine Kd.C_drewN ?_ _) | (with_reducible refine Kd.C_drew ?_)))
           (case side2 => exact (Kd.R_reads' HO433.out).2.1)
           (case side3 => repeat (first | exact (Kd.V_reads' HO437.out).2.2 | (with_reducible refine Kd.C_alloc ?_ _) | (with_reducible refine Kd.C_drewN ?_ _) | (with_reducible refine Kd.C_drew ?_)))
           (case side4 => exact (Kd.V_reads' HO437.out).2.1)
           rintro e w73 ⟨rfl, hb⟩
           refine ⟨_, rfl, ?_⟩
           have n0_ := Aside0.mk (Kd.R_below (by (with_reducible repeat (first | apply Kd.R_alloc | apply Kd.R_drewN | apply Kd.R_drew)); exact HO433.out) hb)
           have n1_ := Aside0.mk (Kd.V_below (by (with_reducible repeat (first | apply Kd.V_alloc | apply Kd.V_drewN | apply Kd.V_drew)); exact HO437.out) hb)
           have n2_ := Aside0.mk (Kd.R_below (by (with_reducible repeat (first | apply Kd.R_alloc | apply Kd.R_drewN | apply Kd.R_drew)); exact HO450.out) hb)
           have n3_ := Aside0.mk (Kd.V_below (by (with_reducible repeat (first | apply Kd.V_alloc | apply Kd.V_drewN | apply Kd.V_drew)); exact HO454.out) hb)
           have n4_ := Aside0.mk (blk_below (g := gb426) (o := .cells #[.string a0_0, .int .i64 a0_1, .slice A0_2 l0_2.length c0_2, .int .i64 a0_3, .slice A0_4 l0_4.length c0_4, .int .i64 a0_5] 25 (0, 0)) (by (with_reducible repeat (first | refine blk_drewN ?_ _ | refine blk_drew ?_ | refine blk_alloc ?_ _)); exact BK426.out) hb)
           have n5_ := Aside0.mk (blk_below (g := gb440) (o := .cells #[.string t429, .int .i64 t430, .slice Ao62 t431.length co62, .int .i64 t434, .slice Ao63 t435.length co63, .int .i64 t438] 25 (0, 0)) (by (with_reducible repeat (first | refine blk_drewN ?_ _ | refine blk_drew ?_ | refine blk_alloc ?_ _)); exact BK440.out) hb)
           have n6_ := Aside0.mk (blk_below (g := gb457) (o := .cells #[.string t446, .int .i64 t447, .slice Ao69 t448.length co69, .int .i64 t451, .slice Ao70 t452.length co70, .int .i64 t455] 25 (0, 0)) (by (with_reducible repeat (first | refine blk_drewN ?_ _ | refine blk_drew ?_ | refine blk_alloc ?_ _)); exact BK457.out) hb)
           have n7_ := Aside0.mk (below_step (by repeat (first | (with_reducible first | exact HB.out | apply below_alloc | apply pw_below_drewN | apply below_drew1 | refine below_set ?_ GE426.out | refine below_set ?_ GE440.out | refine below_set ?_ GE457.out) | exact HB.out)) hb)
           clear HO433
           clear HO437
           clear HO450
           clear HO454
           clear BK426
           clear BK440
           clear BK457
           clear HB
           have HO433 := n0_
           have HO437 := n1_
           have HO450 := n2_
           have HO454 := n3_
           have BK426 := n4_
           have BK440 := n5_
           have BK457 := n6_
           have HB := n7_
           clear n0_ n1_ n2_ n3_ n4_ n5_ n6_ n7_
           (try clear hb)
           (try clear hb2)
           (try clear hk)
           (try clear hi)
           refine hK.out _ _ ⟨(blk_cell BK440.out 0).trans rfl, (blk_cell BK440.out 1).trans rfl, (blk_cell BK440.out 2).trans rfl, (blk_cell BK440.out 3).trans rfl, (blk_cell BK440.out 4).trans rfl, (blk_cell BK440.out 5).trans rfl, (blk_cell BK457.out 0).trans rfl, (blk_cell BK457.out 1).trans rfl, (blk_cell BK457.out 2).trans rfl, (blk_cell BK457.out 3).trans rfl, (blk_cell BK457.out 4).trans rfl, (blk_cell BK457.out 5).trans rfl, (blk_cell BK426.out 0).trans rfl, (blk_cell BK426.out 1).trans rfl, (blk_cell BK426.out 2).trans rfl, (blk_cell BK426.out 3).trans rfl, (blk_cell BK426.out 4).trans rfl, (blk_cell BK426.out 5).trans rfl⟩ (fun hHeld => ?_)
           clear hK K
           refine norm_ (a' := ?_) ?_ ?_
           rotate_left
           ·show Act.put _ (some 46) _ = _
            simp only [Act.put, List.setIfInBounds_toArray, List.set_cons_zero, List.set_cons_succ, i64_w, i32_w]
            rfl
           refine pure_ (i := 2) (N := some 47) (v := ?_) (a' := ?_) #[true, true, true, false, false, false, false, false, false, false, false, false, false, false, false, false, false, false, false, false, false, false, false, false, false, false, false, false, false, false, false, false, false, false, false, false, false, false, false, false, false, false, false] rfl rfl (any_of HT_.out (by kernel_rfl)) (fun _ _ _ h => h) (Or.inl ⟨by rfl, ?_⟩) ?_ ?_
           rotate_left
           ·intro w'
            go_simp
            with_reducible rfl
           rotate_left
           ·simp only [Act.put, List.setIfInBounds_toArray, List.set_cons_zero, List.set_cons_succ, i64_w, i32_w]
            rfl
           refine pure_ (i := 3) (N := some 48) (v := ?_) (a' := ?_) #[true, true, true, true, false, false, false, false, false, false, false, false, false, false, false, false, false, false, false, false, false, false, false, false, false, false, false, false, false, false, false, false, false, false, false, false, false, false, false, false, false, false, false] rfl rfl (any_of HT_.out (by kernel_rfl)) (fun _ _ _ h => h) (Or.inl ⟨by rfl, ?_⟩) ?_ ?_
           rotate_left
           ·intro w'
            go_simp
            with_reducible rfl
           rotate_left
           ·simp only [Act.put, List.setIfInBounds_toArray, List.set_cons_zero, List.set_cons_succ, i64_w, i32_w]
            rfl
           refine take_ (i := 4) (N := some 49) (v := ?_) (a' := ?_) #[true, true, true, true, true, false, false, false, false, false, false, false, false, false, false, false, false, false, false, false, false, false, false, false, false, false, false, false, false, false, false, false, false, false, false, false, false, false, false, false, false, false, false] rfl rfl (take_ofW HT_.out HW_.out (by kernel_rfl)) (fun _ _ _ h => h) (Or.inl ⟨by rfl, ?_⟩) hHeld ?_ ?_
           rotate_left
           ·rintro w' ⟨s0, s1, s2, s3, s4, s5, s6, s7, s8, s9, s10, s11, s12, s13, s14, s15, s16, s17⟩
            go_simp
            with_reducible rfl
           rotate_left
           ·simp only [Act.put, List.setIfInBounds_toArray, List.set_cons_zero, List.set_cons_succ, i64_w, i32_w]
            rfl
           refine one_ (i := 5) (N := some 50) #[true, true, true, true, true, true, false, false, false, false, false, false, false, false, false, false, false, false, false, false, false, false, false, false, false, false, false, false, false, false, false, false, false, false, false, false, false, false, false, false, false, false, false] rfl rfl (one_of HT_.out (by kernel_rfl)) (by decide) (fun K hK => ?_)
           refine goes_ Try.func21 (by kernel_rfl) rfl #[.agg #[.string t429, .int .i64 t430, .slice Ao62 t431.length co62, .int .i64 t434, .slice Ao63 t435.length co63, .int .i64 t438]] (by rfl) rfl rfl (by (try simp only [List.map_toArray, List.map_cons, List.map_nil]); first | done | rfl | (simp only [List.length_drop, List.length_take]; rfl)) ?_
           with_reducible refine (metric_Is.calls k t429 t430 _ _ t431 t434 _ _ t435 t438 true _ ?side1 ?side2 ?side3 ?side4 A9.out).mono ?_
           (case side1 => repeat (first | exact (Kd.R_reads' HO433.out).2.2 | (with_reducible refine Kd.C_alloc ?_ _) | (with_reducible refine Kd.C_drewN ?_ _) | (with_reducible refine Kd.C_drew ?_)))
           (case side2 => exact (Kd.R_reads' HO433.out).2.1)
           (case side3 => repeat (first | exact (Kd.V_reads' HO437.out).2.2 | (with_reducible refine Kd.C_alloc ?_ _) | (with_reducible refine Kd.C_drewN ?_ _) | (with_reducible refine Kd.C_drew ?_)))
           (case side4 => exact (Kd.V_reads' HO437.out).2.1)
           rintro e w74 ⟨rfl, hb⟩
           refine ⟨_, rfl, ?_⟩
           have n0_ := Aside0.mk (Kd.R_below (by (with_reducible repeat (first | apply Kd.R_alloc | apply Kd.R_drewN | apply Kd.R_drew)); exact HO433.out) hb)
           have n1_ := Aside0.mk (Kd.V_below (by (with_reducible repeat (first | apply Kd.V_alloc | apply Kd.V_drewN | apply Kd.V_drew)); exact HO437.out) hb)
           have n2_ := Aside0.mk (Kd.R_below (by (with_reducible repeat (first | apply Kd.R_alloc | apply Kd.R_drewN | apply Kd.R_drew)); exact HO450.out) hb)
           have n3_ := Aside0.mk (Kd.V_below (by (with_reducible repeat (first | apply Kd.V_alloc | apply Kd.V_drewN | apply Kd.V_drew)); exact HO454.out) hb)
           have n4_ := Aside0.mk (blk_below (g := gb426) (o := .cells #[.string a0_0, .int .i64 a0_1, .slice A0_2 l0_2.length c0_2, .int .i64 a0_3, .slice A0_4 l0_4.length c0_4, .int .i64 a0_5] 25 (0, 0)) (by (with_reducible repeat (first | refine blk_drewN ?_ _ | refine blk_drew ?_ | refine blk_alloc ?_ _)); exact BK426.out) hb)
           have n5_ := Aside0.mk (blk_below (g := gb440) (o := .cells #[.string t429, .int .i64 t430, .slice Ao62 t431.length co62, .int .i64 t434, .slice Ao63 t435.length co63, .int .i64 t438] 25 (0, 0)) (by (with_reducible repeat (first | refine blk_drewN ?_ _ | refine blk_drew ?_ | refine blk_alloc ?_ _)); exact BK440.out) hb)
           have n6_ := Aside0.mk (blk_below (g := gb457) (o := .cells #[.string t446, .int .i64 t447, .slice Ao69 t448.length co69, .int .i64 t451, .slice Ao70 t452.length co70, .int .i64 t455] 25 (0, 0)) (by (with_reducible repeat (first | refine blk_drewN ?_ _ | refine blk_drew ?_ | refine blk_alloc ?_ _)); exact BK457.out) hb)
           have n7_ := Aside0.mk (below_step (by repeat (first | (with_reducible first | exact HB.out | apply below_alloc | apply pw_below_drewN | apply below_drew1 | refine below_set ?_ GE426.out | refine below_set ?_ GE440.out | refine below_set ?_ GE457.out) | exact HB.out)) hb)
           clear HO433
           clear HO437
           clear HO450
           clear HO454
           clear BK426
           clear BK440
           clear BK457
           clear HB
           have HO433 := n0_
           have HO437 := n1_
           have HO450 := n2_
           have HO454 := n3_
           have BK426 := n4_
           have BK440 := n5_
           have BK457 := n6_
           have HB := n7_
           clear n0_ n1_ n2_ n3_ n4_ n5_ n6_ n7_
           (try clear hb)
           (try clear hb2)
           (try clear hk)
           (try clear hi)
           refine hK.out _ _ ⟨(blk_cell BK440.out 0).trans rfl, (blk_cell BK440.out 1).trans rfl, (blk_cell BK440.out 2).trans rfl, (blk_cell BK440.out 3).trans rfl, (blk_cell BK440.out 4).trans rfl, (blk_cell BK440.out 5).trans rfl, (blk_cell BK457.out 0).trans rfl, (blk_cell BK457.out 1).trans rfl, (blk_cell BK457.out 2).trans rfl, (blk_cell BK457.out 3).trans rfl, (blk_cell BK457.out 4).trans rfl, (blk_cell BK457.out 5).trans rfl, (blk_cell BK426.out 0).trans rfl, (blk_cell BK426.out 1).trans rfl, (blk_cell BK426.out 2).trans rfl, (blk_cell BK426.out 3).trans rfl, (blk_cell BK426.out 4).trans rfl, (blk_cell BK426.out 5).trans rfl⟩ (fun hHeld => ?_)
           clear hK K
           refine norm_ (a' := ?_) ?_ ?_
           rotate_left
           ·show Act.put _ (some 50) _ = _
            simp only [Act.put, List.setIfInBounds_toArray, List.set_cons_zero, List.set_cons_succ, i64_w, i32_w]
            rfl
           refine pure_ (i := 6) (N := some 51) (v := ?_) (a' := ?_) #[true, true, true, true, true, true, true, false, false, false, false, false, false, false, false, false, false, false, false, false, false, false, false, false, false, false, false, false, false, false, false, false, false, false, false, false, false, false, false, false, false, false, false] rfl rfl (any_of HT_.out (by kernel_rfl)) (fun _ _ _ h => h) (Or.inl ⟨by rfl, ?_⟩) ?_ ?_
           rotate_left
           ·intro w'
            go_simp
            with_reducible rfl
           rotate_left
           ·simp only [Act.put, List.setIfInBounds_toArray, List.set_cons_zero, List.set_cons_succ, i64_w, i32_w]
            rfl
           refine pure_ (i := 7) (N := some 52) (v := ?_) (a' := ?_) #[true, true, true, true, true, true, true, true, false, false, false, false, false, false, false, false, false, false, false, false, false, false, false, false, false, false, false, false, false, false, false, false, false, false, false, false, false, false, false, false, false, false, false] rfl rfl (any_of HT_.out (by kernel_rfl)) (fun _ _ _ h => h) (Or.inl ⟨by rfl, ?_⟩) ?_ ?_
           rotate_left
           ·intro w'
            go_simp
            with_reducible rfl
           rotate_left
           ·simp only [Act.put, List.setIfInBounds_toArray, List.set_cons_zero, List.set_cons_succ, i64_w, i32_w]
            rfl
           refine pure_ (i := 8) (N := some 53) (v := ?_) (a' := ?_) #[true, true, true, true, true, true, true, true, true, false, false, false, false, false, false, false, false, false, false, false, false, false, false, false, false, false, false, false, false, false, false, false, false, false, false, false, false, false, false, false, false, false, false] rfl rfl (any_of HT_.out (by kernel_rfl)) (fun _ _ _ h => h) (Or.inl ⟨by rfl, ?_⟩) ?_ ?_
           rotate_left
           ·intro w'
            go_simp
            with_reducible rfl
           rotate_left
           ·simp only [Act.put, List.setIfInBounds_toArray, List.set_cons_zero, List.set_cons_succ, i64_w, i32_w]
            rfl
           refine take_ (i := 9) (N := some 54) (v := ?_) (a' := ?_) #[true, true, true, true, true, true, true, true, true, true, false, false, false, false, false, false, false, false, false, false, false, false, false, false, false, false, false, false, false, false, false, false, false, false, false, false, false, false, false, false, false, false, false] rfl rfl (take_ofW HT_.out HW_.out (by kernel_rfl)) (fun _ _ _ h => h) (Or.inl ⟨by rfl, ?_⟩) hHeld ?_ ?_
           rotate_left
           ·rintro w' ⟨s0, s1, s2, s3, s4, s5, s6, s7, s8, s9, s10, s11, s12, s13, s14, s15, s16, s17⟩
            go_simp
            with_reducible rfl
           rotate_left
           ·simp only [Act.put, List.setIfInBounds_toArray, List.set_cons_zero, List.set_cons_succ, i64_w, i32_w]
            rfl
           refine one_ (i := 10) (N := some 55) #[true, true, true, true, true, true, true, true, true, true, true, false, false, false, false, false, false, false, false, false, false, false, false, false, false, false, false, false, false, false, false, false, false, false, false, false, false, false, false, false, false, false, false] rfl rfl (one_of HT_.out (by kernel_rfl)) (by decide) (fun K hK => ?_)
           refine goes_ Try.func27 (by kernel_rfl) rfl #[.slice Ao63 t435.length co63] (by rfl) rfl rfl (by (try simp only [List.map_toArray, List.map_cons, List.map_nil]); first | done | rfl | (simp only [List.length_drop, List.length_take]; rfl)) ?_
           with_reducible refine (tag_Is.calls k _ _ t435 true _ ?side1 ?side2 A11.out).mono ?_
           (case side1 => repeat (first | exact (Kd.V_reads' HO437.out).2.2 | (with_reducible refine Kd.C_alloc ?_ _) | (with_reducible refine Kd.C_drewN ?_ _) | (with_reducible refine Kd.C_drew ?_)))
           (case side2 => exact (Kd.V_reads' HO437.out).2.1)
           rintro e w75 ⟨rfl, hb⟩
           refine ⟨_, rfl, ?_⟩
           have n0_ := Aside0.mk (Kd.R_below (by (with_reducible repeat (first | apply Kd.R_alloc | apply Kd.R_drewN | apply Kd.R_drew)); exact HO433.out) hb)
           have n1_ := Aside0.mk (Kd.V_below (by (with_reducible repeat (first | apply Kd.V_alloc | apply Kd.V_drewN | apply Kd.V_drew)); exact HO437.out) hb)
           have n2_ := Aside0.mk (Kd.R_below (by (with_reducible repeat (first | apply Kd.R_alloc | apply Kd.R_drewN | apply Kd.R_drew)); exact HO450.out) hb)
           have n3_ := Aside0.mk (Kd.V_below (by (with_reducible repeat (first | apply Kd.V_alloc | apply Kd.V_drewN | apply Kd.V_drew)); exact HO454.out) hb)
           have n4_ := Aside0.mk (blk_below (g := gb426) (o := .cells #[.string a0_0, .int .i64 a0_1, .slice A0_2 l0_2.length c0_2, .int .i64 a0_3, .slice A0_4 l0_4.length c0_4, .int .i64 a0_5] 25 (0, 0)) (by (with_reducible repeat (first | refine blk_drewN ?_ _ | refine blk_drew ?_ | refine blk_alloc ?_ _)); exact BK426.out) hb)
           have n5_ := Aside0.mk (blk_below (g := gb440) (o := .cells #[.string t429, .int .i64 t430, .slice Ao62 t431.length co62, .int .i64 t434, .slice Ao63 t435.length co63, .int .i64 t438] 25 (0, 0)) (by (with_reducible repeat (first | refine blk_drewN ?_ _ | refine blk_drew ?_ | refine blk_alloc ?_ _)); exact BK440.out) hb)
           have n6_ := Aside0.mk (blk_below (g := gb457) (o := .cells #[.string t446, .int .i64 t447, .slice Ao69 t448.length co69, .int .i64 t451, .slice Ao70 t452.length co70, .int .i64 t455] 25 (0, 0)) (by (with_reducible repeat (first | refine blk_drewN ?_ _ | refine blk_drew ?_ | refine blk_alloc ?_ _)); exact BK457.out) hb)
           have n7_ := Aside0.mk (below_step (by repeat (first | (with_reducible first | exact HB.out | apply below_alloc | apply pw_below_drewN | apply below_drew1 | refine below_set ?_ GE426.out | refine below_set ?_ GE440.out | refine below_set ?_ GE457.out) | exact HB.out)) hb)
           clear HO433
           clear HO437
           clear HO450
           clear HO454
           clear BK426
           clear BK440
           clear BK457
           clear HB
           have HO433 := n0_
           have HO437 := n1_
           have HO450 := n2_
           have HO454 := n3_
           have BK426 := n4_
           have BK440 := n5_
           have BK457 := n6_
           have HB := n7_
           clear n0_ n1_ n2_ n3_ n4_ n5_ n6_ n7_
           (try clear hb)
           (try clear hb2)
           (try clear hk)
           (try clear hi)
           refine hK.out _ _ ⟨(blk_cell BK440.out 0).trans rfl, (blk_cell BK440.out 1).trans rfl, (blk_cell BK440.out 2).trans rfl, (blk_cell BK440.out 3).trans rfl, (blk_cell BK440.out 4).trans rfl, (blk_cell BK440.out 5).trans rfl, (blk_cell BK457.out 0).trans rfl, (blk_cell BK457.out 1).trans rfl, (blk_cell BK457.out 2).trans rfl, (blk_cell BK457.out 3).trans rfl, (blk_cell BK457.out 4).trans rfl, (blk_cell BK457.out 5).trans rfl, (blk_cell BK426.out 0).trans rfl, (blk_cell BK426.out 1).trans rfl, (blk_cell BK426.out 2).trans rfl, (blk_cell BK426.out 3).trans rfl, (blk_cell BK426.out 4).trans rfl, (blk_cell BK426.out 5).trans rfl⟩ (fun hHeld => ?_)
           clear hK K
           refine norm_ (a' := ?_) ?_ ?_
           rotate_left
           ·show Act.put _ (some 55) _ = _
            simp only [Act.put, List.setIfInBounds_toArray, List.set_cons_zero, List.set_cons_succ, i64_w, i32_w]
            rfl
           refine pure_ (i := 11) (N := some 56) (v := ?_) (a' := ?_) #[true, true, true, true, true, true, true, true, true, true, true, true, false, false, false, false, false, false, false, false, false, false, false, false, false, false, false, false, false, false, false, false, false, false, false, false, false, false, false, false, false, false, false] rfl rfl (any_of HT_.out (by kernel_rfl)) (fun _ _ _ h => h) (Or.inl ⟨by rfl, ?_⟩) ?_ ?_
           rotate_left
           ·intro w'
            go_simp
            with_reducible rfl
           rotate_left
           ·simp only [Act.put, List.setIfInBounds_toArray, List.set_cons_zero, List.set_cons_succ, i64_w, i32_w]
            rfl
           refine pure_ (i := 12) (N := some 57) (v := ?_) (a' := ?_) #[true, true, true, true, true, true, true, true, true, true, true, true, true, false, false, false, false, false, false, false, false, false, false, false, false, false, false, false, false, false, false, false, false, false, false, false, false, false, false, false, false, false, false] rfl rfl (any_of HT_.out (by kernel_rfl)) (fun _ _ _ h => h) (Or.inl ⟨by rfl, ?_⟩) ?_ ?_
           rotate_left
           ·intro w'
            go_simp
            with_reducible rfl
           rotate_left
           ·simp only [Act.put, List.setIfInBounds_toArray, List.set_cons_zero, List.set_cons_succ, i64_w, i32_w]
            rfl
           refine pure_ (i := 13) (N := some 58) (v := ?_) (a' := ?_) #[true, true, true, true, true, true, true, true, true, true, true, true, true, true, false, false, false, false, false, false, false, false, false, false, false, false, false, false, false, false, false, false, false, false, false, false, false, false, false, false, false, false, false] rfl rfl (any_of HT_.out (by kernel_rfl)) (fun _ _ _ h => h) (Or.inl ⟨by rfl, ?_⟩) ?_ ?_
           rotate_left
           ·intro w'
            go_simp
            with_reducible rfl
           rotate_left
           ·simp only [Act.put, List.setIfInBounds_toArray, List.set_cons_zero, List.set_cons_succ, i64_w, i32_w]
            rfl
           refine pure_ (i := 14) (N := some 59) (v := ?_) (a' := ?_) #[true, true, true, true, true, true, true, true, true, true, true, true, true, true, true, false, false, false, false, false, false, false, false, false, false, false, false, false, false, false, false, false, false, false, false, false, false, false, false, false, false, false, false] rfl rfl (any_of HT_.out (by kernel_rfl)) (fun _ _ _ h => h) (Or.inl ⟨by rfl, ?_⟩) ?_ ?_
           rotate_left
           ·intro w'
            go_simp
            with_reducible rfl
           rotate_left
           ·simp only [Act.put, List.setIfInBounds_toArray, List.set_cons_zero, List.set_cons_succ, i64_w, i32_w]
            rfl
           refine pure_ (i := 15) (N := some 60) (v := ?_) (a' := ?_) #[true, true, true, true, true, true, true, true, true, true, true, true, true, true, true, true, false, false, false, false, false, false, false, false, false, false, false, false, false, false, false, false, false, false, false, false, false, false, false, false, false, false, false] rfl rfl (any_of HT_.out (by kernel_rfl)) (fun _ _ _ h => h) (Or.inl ⟨by rfl, ?_⟩) ?_ ?_
           rotate_left
           ·intro w'
            go_simp
            with_reducible rfl
           rotate_left
           ·simp only [Act.put, List.setIfInBounds_toArray, List.set_cons_zero, List.set_cons_succ, i64_w, i32_w]
            rfl
           refine pure_ (i := 16) (N := some 61) (v := ?_) (a' := ?_) #[true, true, true, true, true, true, true, true, true, true, true, true, true, true, true, true, true, false, false, false, false, false, false, false, false, false, false, false, false, false, false, false, false, false, false, false, false, false, false, false, false, false, false] rfl rfl (any_of HT_.out (by kernel_rfl)) (fun _ _ _ h => h) (Or.inl ⟨by rfl, ?_⟩) ?_ ?_
           rotate_left
           ·intro w'
            go_simp
            with_reducible rfl
           rotate_left
           ·simp only [Act.put, List.setIfInBounds_toArray, List.set_cons_zero, List.set_cons_succ, i64_w, i32_w]
            rfl
           refine take_ (i := 17) (N := some 62) (v := ?_) (a' := ?_) #[true, true, true, true, true, true, true, true, true, true, true, true, true, true, true, true, true, true, false, false, false, false, false, false, false, false, false, false, false, false, false, false, false, false, false, false, false, false, false, false, false, false, false] rfl rfl (take_ofW HT_.out HW_.out (by kernel_rfl)) (fun _ _ _ h => h) (Or.inl ⟨by rfl, ?_⟩) hHeld ?_ ?_
           rotate_left
           ·rintro w' ⟨s0, s1, s2, s3, s4, s5, s6, s7, s8, s9, s10, s11, s12, s13, s14, s15, s16, s17⟩
            go_simp
            with_reducible rfl
           rotate_left
           ·simp only [Act.put, List.setIfInBounds_toArray, List.set_cons_zero, List.set_cons_succ, i64_w, i32_w]
            rfl
           refine take_ (i := 18) (N := some 63) (v := ?_) (a' := ?_) #[true, true, true, true, true, true, true, true, true, true, true, true, true, true, true, true, true, true, true, false, false, false, false, false, false, false, false, false, false, false, false, false, false, false, false, false, false, false, false, false, false, false, false] rfl rfl (take_ofW HT_.out HW_.out (by kernel_rfl)) (fun _ _ _ h => h) (Or.inl ⟨by rfl, ?_⟩) hHeld ?_ ?_
           rotate_left
           ·rintro w' ⟨s0, s1, s2, s3, s4, s5, s6, s7, s8, s9, s10, s11, s12, s13, s14, s15, s16, s17⟩
            go_simp
            with_reducible rfl
           rotate_left
           ·simp only [Act.put, List.setIfInBounds_toArray, List.set_cons_zero, List.set_cons_succ, i64_w, i32_w]
            rfl
           refine one_ (i := 19) (N := some 64) #[true, true, true, true, true, true, true, true, true, true, true, true, true, true, true, true, true, true, true, true, false, false, false, false, false, false, false, false, false, false, false, false, false, false, false, false, false, false, false, false, false, false, false] rfl rfl (one_of HT_.out (by kernel_rfl)) (by decide) (fun K hK => ?_)
           refine goes_ Try.func22 (by kernel_rfl) rfl #[.agg #[.string t446, .int .i64 t447, .slice Ao69 t448.length co69, .int .i64 t451, .slice Ao70 t452.length co70, .int .i64 t455], .agg #[.string t429, .int .i64 t430, .slice Ao62 t431.length co62, .int .i64 t434, .slice Ao63 t435.length co63, .int .i64 t438]] (by rfl) rfl rfl (by (try simp only [List.map_toArray, List.map_cons, List.map_nil]); first | done | rfl | (simp only [List.length_drop, List.length_take]; rfl)) ?_
           with_reducible refine (metric_Equal.calls k t446 t447 _ _ t448 t451 _ _ t452 t455 t429 t430 _ _ t431 t434 _ _ t435 t438 true _ ?side1 ?side2 ?side3 ?side4 ?side5 ?side6 ?side7 ?side8 A14.out).mono ?_
           (case side1 => repeat (first | exact (Kd.R_reads' HO450.out).2.2 | (with_reducible refine Kd.C_alloc ?_ _) | (with_reducible refine Kd.C_drewN ?_ _) | (with_reducible refine Kd.C_drew ?_)))
           (case side2 => exact (Kd.R_reads' HO450.out).2.1)
           (case side3 => repeat (first | exact (Kd.V_reads' HO454.out).2.2 | (with_reducible refine Kd.C_alloc ?_ _) | (with_reducible refine Kd.C_drewN ?_ _) | (with_reducible refine Kd.C_drew ?_)))
           (case side4 => exact (Kd.V_reads' HO454.out).2.1)
           (case side5 => repeat (first | exact (Kd.R_reads' HO433.out).2.2 | (with_reducible refine Kd.C_alloc ?_ _) | (with_reducible refine Kd.C_drewN ?_ _) | (with_reducible refine Kd.C_drew ?_)))
           (case side6 => exact (Kd.R_reads' HO433.out).2.1)
           (case side7 => repeat (first | exact (Kd.V_reads' HO437.out).2.2 | (with_reducible refine Kd.C_alloc ?_ _) | (with_reducible refine Kd.C_drewN ?_ _) | (with_reducible refine Kd.C_drew ?_)))
           (case side8 => exact (Kd.V_reads' HO437.out).2.1)
           rintro e w76 ⟨rfl, hb⟩
           refine ⟨_, rfl, ?_⟩
           have n0_ := Aside0.mk (Kd.R_below (by (with_reducible repeat (first | apply Kd.R_alloc | apply Kd.R_drewN | apply Kd.R_drew)); exact HO433.out) hb)
           have n1_ := Aside0.mk (Kd.V_below (by (with_reducible repeat (first | apply Kd.V_alloc | apply Kd.V_drewN | apply Kd.V_drew)); exact HO437.out) hb)
           have n2_ := Aside0.mk (Kd.R_below (by (with_reducible repeat (first | apply Kd.R_alloc | apply Kd.R_drewN | apply Kd.R_drew)); exact HO450.out) hb)
           have n3_ := Aside0.mk (Kd.V_below (by (with_reducible repeat (first | apply Kd.V_alloc | apply Kd.V_drewN | apply Kd.V_drew)); exact HO454.out) hb)
           have n4_ := Aside0.mk (blk_below (g := gb426) (o := .cells #[.string a0_0, .int .i64 a0_1, .slice A0_2 l0_2.length c0_2, .int .i64 a0_3, .slice A0_4 l0_4.length c0_4, .int .i64 a0_5] 25 (0, 0)) (by (with_reducible repeat (first | refine blk_drewN ?_ _ | refine blk_drew ?_ | refine blk_alloc ?_ _)); exact BK426.out) hb)
           have n5_ := Aside0.mk (blk_below (g := gb440) (o := .cells #[.string t429, .int .i64 t430, .slice Ao62 t431.length co62, .int .i64 t434, .slice Ao63 t435.length co63, .int .i64 t438] 25 (0, 0)) (by (with_reducible repeat (first | refine blk_drewN ?_ _ | refine blk_drew ?_ | refine blk_alloc ?_ _)); exact BK440.out) hb)
           have n6_ := Aside0.mk (blk_below (g := gb457) (o := .cells #[.string t446, .int .i64 t447, .slice Ao69 t448.length co69, .int .i64 t451, .slice Ao70 t452.length co70, .int .i64 t455] 25 (0, 0)) (by (with_reducible repeat (first | refine blk_drewN ?_ _ | refine blk_drew ?_ | refine blk_alloc ?_ _)); exact BK457.out) hb)
           have n7_ := Aside0.mk (below_step (by repeat (first | (with_reducible first | exact HB.out | apply below_alloc | apply pw_below_drewN | apply below_drew1 | refine below_set ?_ GE426.out | refine below_set ?_ GE440.out | refine below_set ?_ GE457.out) | exact HB.out)) hb)
           clear HO433
           clear HO437
           clear HO450
           clear HO454
           clear BK426
           clear BK440
           clear BK457
           clear HB
           have HO433 := n0_
           have HO437 := n1_
           have HO450 := n2_
           have HO454 := n3_
           have BK426 := n4_
           have BK440 := n5_
           have BK457 := n6_
           have HB := n7_
           clear n0_ n1_ n2_ n3_ n4_ n5_ n6_ n7_
           (try clear hb)
           (try clear hb2)
           (try clear hk)
           (try clear hi)
           refine hK.out _ _ ⟨(blk_cell BK440.out 0).trans rfl, (blk_cell BK440.out 1).trans rfl, (blk_cell BK440.out 2).trans rfl, (blk_cell BK440.out 3).trans rfl, (blk_cell BK440.out 4).trans rfl, (blk_cell BK440.out 5).trans rfl, (blk_cell BK457.out 0).trans rfl, (blk_cell BK457.out 1).trans rfl, (blk_cell BK457.out 2).trans rfl, (blk_cell BK457.out 3).trans rfl, (blk_cell BK457.out 4).trans rfl, (blk_cell BK457.out 5).trans rfl, (blk_cell BK426.out 0).trans rfl, (blk_cell BK426.out 1).trans rfl, (blk_cell BK426.out 2).trans rfl, (blk_cell BK426.out 3).trans rfl, (blk_cell BK426.out 4).trans rfl, (blk_cell BK426.out 5).trans rfl⟩ (fun hHeld => ?_)
           clear hK K
           refine norm_ (a' := ?_) ?_ ?_
           rotate_left
           ·show Act.put _ (some 64) _ = _
            simp only [Act.put, List.setIfInBounds_toArray, List.set_cons_zero, List.set_cons_succ, i64_w, i32_w]
            rfl
           refine pure_ (i := 20) (N := some 65) (v := ?_) (a' := ?_) #[true, true, true, true, true, true, true, true, true, true, true, true, true, true, true, true, true, true, true, true, true, false, false, false, false, false, false, false, false, false, false, false, false, false, false, false, false, false, false, false, false, false, false] rfl rfl (any_of HT_.out (by kernel_rfl)) (fun _ _ _ h => h) (Or.inl ⟨by rfl, ?_⟩) ?_ ?_
           rotate_left
           ·intro w'
            go_simp
            with_reducible rfl
           rotate_left
           ·simp only [Act.put, List.setIfInBounds_toArray, List.set_cons_zero, List.set_cons_succ, i64_w, i32_w]
            rfl
           refine pure_ (i := 21) (N := some 66) (v := ?_) (a' := ?_) #[true, true, true, true, true, true, true, true, true, true, true, true, true, true, true, true, true, true, true, true, true, true, false, false, false, false, false, false, false, false, false, false, false, false, false, false, false, false, false, false, false, false, false] rfl rfl (any_of HT_.out (by kernel_rfl)) (fun _ _ _ h => h) (Or.inl ⟨by rfl, ?_⟩) ?_ ?_
           rotate_left
           ·intro w'
            go_simp
            with_reducible rfl
           rotate_left
           ·simp only [Act.put, List.setIfInBounds_toArray, List.set_cons_zero, List.set_cons_succ, i64_w, i32_w]
            rfl
           refine take_ (i := 22) (N := some 67) (v := ?_) (a' := ?_) #[true, true, true, true, true, true, true, true, true, true, true, true, true, true, true, true, true, true, true, true, true, true, true, false, false, false, false, false, false, false, false, false, false, false, false, false, false, false, false, false, false, false, false] rfl rfl (take_ofW HT_.out HW_.out (by kernel_rfl)) (fun _ _ _ h => h) (Or.inl ⟨by rfl, ?_⟩) hHeld ?_ ?_
           rotate_left
           ·rintro w' ⟨s0, s1, s2, s3, s4, s5, s6, s7, s8, s9, s10, s11, s12, s13, s14, s15, s16, s17⟩
            go_simp
            with_reducible rfl
           rotate_left
           ·simp only [Act.put, List.setIfInBounds_toArray, List.set_cons_zero, List.set_cons_succ, i64_w, i32_w]
            rfl
           refine take_ (i := 23) (N := some 68) (v := ?_) (a' := ?_) #[true, true, true, true, true, true, true, true, true, true, true, true, true, true, true, true, true, true, true, true, true, true, true, true, false, false, false, false, false, false, false, false, false, false, false, false, false, false, false, false, false, false, false] rfl rfl (take_ofW HT_.out HW_.out (by kernel_rfl)) (fun _ _ _ h => h) (Or.inl ⟨by rfl, ?_⟩) hHeld ?_ ?_
           rotate_left
           ·rintro w' ⟨s0, s1, s2, s3, s4, s5, s6, s7, s8, s9, s10, s11, s12, s13, s14, s15, s16, s17⟩
            go_simp
            with_reducible rfl
           rotate_left
           ·simp only [Act.put, List.setIfInBounds_toArray, List.set_cons_zero, List.set_cons_succ, i64_w, i32_w]
            rfl
           refine one_ (i := 24) (N := some 69) #[true, true, true, true, true, true, true, true, true, true, true, true, true, true, true, true, true, true, true, true, true, true, true, true, true, false, false, false, false, false, false, false, false, false, false, false, false, false, false, false, false, false, false] rfl rfl (one_of HT_.out (by kernel_rfl)) (by decide) (fun K hK => ?_)
           refine goes_ Try.func23 (by kernel_rfl) rfl #[.agg #[.string a0_0, .int .i64 a0_1, .slice A0_2 l0_2.length c0_2, .int .i64 a0_3, .slice A0_4 l0_4.length c0_4, .int .i64 a0_5], .agg #[.string t429, .int .i64 t430, .slice Ao62 t431.length co62, .int .i64 t434, .slice Ao63 t435.length co63, .int .i64 t438]] (by rfl) rfl rfl (by (try simp only [List.map_toArray, List.map_cons, List.map_nil]); first | done | rfl | (simp only [List.length_drop, List.length_take]; rfl)) ?_
           with_reducible refine (metric_Same.calls k a0_0 a0_1 _ _ l0_2 a0_3 _ _ l0_4 a0_5 t429 t430 _ _ t431 t434 _ _ t435 t438 true _ ?side1 ?side2 ?side3 ?side4 ?side5 ?side6 ?side7 ?side8 A16.out).mono ?_
           (case side1 => repeat (first | exact (Kd.C_below HR0_2.out HB.out) | (with_reducible refine Kd.C_alloc ?_ _) | (with_reducible refine Kd.C_drewN ?_ _) | (with_reducible refine Kd.C_drew ?_)))
           (case side2 => exact HC0_2.out)
           (case side3 => repeat (first | exact (Kd.C_below HR0_4.out HB.out) | (with_reducible refine Kd.C_alloc ?_ _) | (with_reducible refine Kd.C_drewN ?_ _) | (with_reducible refine Kd.C_drew ?_)))
           (case side4 => exact HC0_4.out)
           (case side5 => repeat (first | exact (Kd.R_reads' HO433.out).2.2 | (with_reducible refine Kd.C_alloc ?_ _) | (with_reducible refine Kd.C_drewN ?_ _) | (with_reducible refine Kd.C_drew ?_)))
           (case side6 => exact (Kd.R_reads' HO433.out).2.1)
           (case side7 => repeat (first | exact (Kd.V_reads' HO437.out).2.2 | (with_reducible refine Kd.C_alloc ?_ _) | (with_reducible refine Kd.C_drewN ?_ _) | (with_reducible refine Kd.C_drew ?_)))
           (case side8 => exact (Kd.V_reads' HO437.out).2.1)
           rintro e w77 ⟨rfl, hb⟩
           refine ⟨_, rfl, ?_⟩
           have n0_ := Aside0.mk (Kd.R_below (by (with_reducible repeat (first | apply Kd.R_alloc | apply Kd.R_drewN | apply Kd.R_drew)); exact HO433.out) hb)
           have n1_ := Aside0.mk (Kd.V_below (by (with_reducible repeat (first | apply Kd.V_alloc | apply Kd.V_drewN | apply Kd.V_drew)); exact HO437.out) hb)
           have n2_ := Aside0.mk (Kd.R_below (by (with_reducible repeat (first | apply Kd.R_alloc | apply Kd.R_drewN | apply Kd.R_drew)); exact HO450.out) hb)
           have n3_ := Aside0.mk (Kd.V_below (by (with_reducible repeat (first | apply Kd.V_alloc | apply Kd.V_drewN | apply Kd.V_drew)); exact HO454.out) hb)
           have n4_ := Aside0.mk (blk_below (g := gb426) (o := .cells #[.string a0_0, .int .i64 a0_1, .slice A0_2 l0_2.length c0_2, .int .i64 a0_3, .slice A0_4 l0_4.length c0_4, .int .i64 a0_5] 25 (0, 0)) (by (with_reducible repeat (first | refine blk_drewN ?_ _ | refine blk_drew ?_ | refine blk_alloc ?_ _)); exact BK426.out) hb)
           have n5_ := Aside0.mk (blk_below (g := gb440) (o := .cells #[.string t429, .int .i64 t430, .slice Ao62 t431.length co62, .int .i64 t434, .slice Ao63 t435.length co63, .int .i64 t438] 25 (0, 0)) (by (with_reducible repeat (first | refine blk_drewN ?_ _ | refine blk_drew ?_ | refine blk_alloc ?_ _)); exact BK440.out) hb)
           have n6_ := Aside0.mk (blk_below (g := gb457) (o := .cells #[.string t446, .int .i64 t447, .slice Ao69 t448.length co69, .int .i64 t451, .slice Ao70 t452.length co70, .int .i64 t455] 25 (0, 0)) (by (with_reducible repeat (first | refine blk_drewN ?_ _ | refine blk_drew ?_ | refine blk_alloc ?_ _)); exact BK457.out) hb)
           have n7_ := Aside0.mk (below_step (by repeat (first | (with_reducible first | exact HB.out | apply below_alloc | apply pw_below_drewN | apply below_drew1 | refine below_set ?_ GE426.out | refine below_set ?_ GE440.out | refine below_set ?_ GE457.out) | exact HB.out)) hb)
           clear HO433
           clear HO437
           clear HO450
           clear HO454
           clear BK426
           clear BK440
           clear BK457
           clear HB
           have HO433 := n0_
           have HO437 := n1_
           have HO450 := n2_
           have HO454 := n3_
           have BK426 := n4_
           have BK440 := n5_
           have BK457 := n6_
           have HB := n7_
           clear n0_ n1_ n2_ n3_ n4_ n5_ n6_ n7_
           (try clear hb)
           (try clear hb2)
           (try clear hk)
           (try clear hi)
           refine hK.out _ _ ⟨(blk_cell BK440.out 0).trans rfl, (blk_cell BK440.out 1).trans rfl, (blk_cell BK440.out 2).trans rfl, (blk_cell BK440.out 3).trans rfl, (blk_cell BK440.out 4).trans rfl, (blk_cell BK440.out 5).trans rfl, (blk_cell BK457.out 0).trans rfl, (blk_cell BK457.out 1).trans rfl, (blk_cell BK457.out 2).trans rfl, (blk_cell BK457.out 3).trans rfl, (blk_cell BK457.out 4).trans rfl, (blk_cell BK457.out 5).trans rfl, (blk_cell BK426.out 0).trans rfl, (blk_cell BK426.out 1).trans rfl, (blk_cell BK426.out 2).trans rfl, (blk_cell BK426.out 3).trans rfl, (blk_cell BK426.out 4).trans rfl, (blk_cell BK426.out 5).trans rfl⟩ (fun hHeld => ?_)
           clear hK K
           refine norm_ (a' := ?_) ?_ ?_
           rotate_left
           ·show Act.put _ (some 69) _ = _
            simp only [Act.put, List.setIfInBounds_toArray, List.set_cons_zero, List.set_cons_succ, i64_w, i32_w]
            rfl
           refine pure_ (i := 25) (N := some 70) (v := ?_) (a' := ?_) #[true, true, true, true, true, true, true, true, true, true, true, true, true, true, true, true, true, true, true, true, true, true, true, true, true, true, false, false, false, false, false, false, false, false, false, false, false, false, false, false, false, false, false] rfl rfl (any_of HT_.out (by kernel_rfl)) (fun _ _ _ h => h) (Or.inl ⟨by rfl, ?_⟩) ?_ ?_
           rotate_left
           ·intro w'
            go_simp
            with_reducible rfl
           rotate_left
           ·simp only [Act.put, List.setIfInBounds_toArray, List.set_cons_zero, List.set_cons_succ, i64_w, i32_w]
            rfl
           refine pure_ (i := 26) (N := some 71) (v := ?_) (a' := ?_) #[true, true, true, true, true, true, true, true, true, true, true, true, true, true, true, true, true, true, true, true, true, true, true, true, true, true, true, false, false, false, false, false, false, false, false, false, false, false, false, false, false, false, false] rfl rfl (any_of HT_.out (by kernel_rfl)) (fun _ _ _ h => h) (Or.inl ⟨by rfl, ?_⟩) ?_ ?_
           rotate_left
           ·intro w'
            go_simp
            with_reducible rfl
           rotate_left
           ·simp only [Act.put, List.setIfInBounds_toArray, List.set_cons_zero, List.set_cons_succ, i64_w, i32_w]
            rfl
           refine take_ (i := 27) (N := some 72) (v := ?_) (a' := ?_) #[true, true, true, true, true, true, true, true, true, true, true, true, true, true, true, true, true, true, true, true, true, true, true, true, true, true, true, true, false, false, false, false, false, false, false, false, false, false, false, false, false, false, false] rfl rfl (take_ofW HT_.out HW_.out (by kernel_rfl)) (fun _ _ _ h => h) (Or.inl ⟨by rfl, ?_⟩) hHeld ?_ ?_
           rotate_left
           ·rintro w' ⟨s0, s1, s2, s3, s4, s5, s6, s7, s8, s9, s10, s11, s12, s13, s14, s15, s16, s17⟩
            go_simp
            with_reducible rfl
           rotate_left
           ·simp only [Act.put, List.setIfInBounds_toArray, List.set_cons_zero, List.set_cons_succ, i64_w, i32_w]
            rfl
           refine take_ (i := 29) (N := some 74) (v := ?_) (a' := ?_) #[true, true, true, true, true, true, true, true, true, true, true, true, true, true, true, true, true, true, true, true, true, true, true, true, true, true, true, true, false, true, false, false, false, false, false, false, false, false, false, false, false, false, false] rfl rfl (take_ofW HT_.out HW_.out (by kernel_rfl)) (fun _ _ _ h => h) (Or.inl ⟨by rfl, ?_⟩) hHeld ?_ ?_
           rotate_left
           ·rintro w' ⟨s0, s1, s2, s3, s4, s5, s6, s7, s8, s9, s10, s11, s12, s13, s14, s15, s16, s17⟩
            go_simp
            with_reducible rfl
           rotate_left
           ·simp only [Act.put, List.setIfInBounds_toArray, List.set_cons_zero, List.set_cons_succ, i64_w, i32_w]
            rfl
           refine one_ (i := 28) (N := some 73) #[true, true, true, true, true, true, true, true, true, true, true, true, true, true, true, true, true, true, true, true, true, true, true, true, true, true, true, true, true, true, false, false, false, false, false, false, false, false, false, false, false, false, false] rfl rfl (one_of HT_.out (by kernel_rfl)) (by decide) (fun K hK => ?_)
           refine goes_ Try.func21 (by kernel_rfl) rfl #[.agg #[.string a0_0, .int .i64 a0_1, .slice A0_2 l0_2.length c0_2, .int .i64 a0_3, .slice A0_4 l0_4.length c0_4, .int .i64 a0_5]] (by rfl) rfl rfl (by (try simp only [List.map_toArray, List.map_cons, List.map_nil]); first | done | rfl | (simp only [List.length_drop, List.length_take]; rfl)) ?_
           with_reducible refine (metric_Is.calls k a0_0 a0_1 _ _ l0_2 a0_3 _ _ l0_4 a0_5 t463 _ ?side1 ?side2 ?side3 ?side4 A18.out).mono ?_
           (case side1 => repeat (first | exact (Kd.C_below HR0_2.out HB.out) | (with_reducible refine Kd.C_alloc ?_ _) | (with_reducible refine Kd.C_drewN ?_ _) | (with_reducible refine Kd.C_drew ?_)))
           (case side2 => exact HC0_2.out)
           (case side3 => repeat (first | exact (Kd.C_below HR0_4.out HB.out) | (with_reducible refine Kd.C_alloc ?_ _) | (with_reducible refine Kd.C_drewN ?_ _) | (with_reducible refine Kd.C_drew ?_)))
           (case side4 => exact HC0_4.out)
           rintro e w78 ⟨rfl, hb⟩
           refine ⟨_, rfl, ?_⟩
           have n0_ := Aside0.mk (Kd.R_below (by (with_reducible repeat (first | apply Kd.R_alloc | apply Kd.R_drewN | apply Kd.R_drew)); exact HO433.out) hb)
           have n1_ := Aside0.mk (Kd.V_below (by (with_reducible repeat (first | apply Kd.V_alloc | apply Kd.V_drewN | apply Kd.V_drew)); exact HO437.out) hb)
           have n2_ := Aside0.mk (Kd.R_below (by (with_reducible repeat (first | apply Kd.R_alloc | apply Kd.R_drewN | apply Kd.R_drew)); exact HO450.out) hb)
           have n3_ := Aside0.mk (Kd.V_below (by (with_reducible repeat (first | apply Kd.V_alloc | apply Kd.V_drewN | apply Kd.V_drew)); exact HO454.out) hb)
           have n4_ := Aside0.mk (blk_below (g := gb426) (o := .cells #[.string a0_0, .int .i64 a0_1, .slice A0_2 l0_2.length c0_2, .int .i64 a0_3, .slice A0_4 l0_4.length c0_4, .int .i64 a0_5] 25 (0, 0)) (by (with_reducible repeat (first | refine blk_drewN ?_ _ | refine blk_drew ?_ | refine blk_alloc ?_ _)); exact BK426.out) hb)
           have n5_ := Aside0.mk (blk_below (g := gb440) (o := .cells #[.string t429, .int .i64 t430, .slice Ao62 t431.length co62, .int .i64 t434, .slice Ao63 t435.length co63, .int .i64 t438] 25 (0, 0)) (by (with_reducible repeat (first | refine blk_drewN ?_ _ | refine blk_drew ?_ | refine blk_alloc ?_ _)); exact BK440.out) hb)
           have n6_ := Aside0.mk (blk_below (g := gb457) (o := .cells #[.string t446, .int .i64 t447, .slice Ao69 t448.length co69, .int .i64 t451, .slice Ao70 t452.length co70, .int .i64 t455] 25 (0, 0)) (by (with_reducible repeat (first | refine blk_drewN ?_ _ | refine blk_drew ?_ | refine blk_alloc ?_ _)); exact BK457.out) hb)
           have n7_ := Aside0.mk (below_step (by repeat (first | (with_reducible first | exact HB.out | apply below_alloc | apply pw_below_drewN | apply below_drew1 | refine below_set ?_ GE426.out | refine below_set ?_ GE440.out | refine below_set ?_ GE457.out) | exact HB.out)) hb)
           clear HO433
           clear HO437
           clear HO450
           clear HO454
           clear BK426
           clear BK440
           clear BK457
           clear HB
           have HO433 := n0_
           have HO437 := n1_
           have HO450 := n2_
           have HO454 := n3_
           have BK426 := n4_
           have BK440 := n5_
           have BK457 := n6_
           have HB := n7_
           clear n0_ n1_ n2_ n3_ n4_ n5_ n6_ n7_
           (try clear hb)
           (try clear hb2)
           (try clear hk)
           (try clear hi)
           refine hK.out _ _ ⟨(blk_cell BK440.out 0).trans rfl, (blk_cell BK440.out 1).trans rfl, (blk_cell BK440.out 2).trans rfl, (blk_cell BK440.out 3).trans rfl, (blk_cell BK440.out 4).trans rfl, (blk_cell BK440.out 5).trans rfl, (blk_cell BK457.out 0).trans rfl, (blk_cell BK457.out 1).trans rfl, (blk_cell BK457.out 2).trans rfl, (blk_cell BK457.out 3).trans rfl, (blk_cell BK457.out 4).trans rfl, (blk_cell BK457.out 5).trans rfl, (blk_cell BK426.out 0).trans rfl, (blk_cell BK426.out 1).trans rfl, (blk_cell BK426.out 2).trans rfl, (blk_cell BK426.out 3).trans rfl, (blk_cell BK426.out 4).trans rfl, (blk_cell BK426.out 5).trans rfl⟩ (fun hHeld => ?_)
           clear hK K
           refine norm_ (a' := ?_) ?_ ?_
           rotate_left
           ·show Act.put _ (some 73) _ = _
            simp only [Act.put, List.setIfInBounds_toArray, List.set_cons_zero, List.set_cons_succ, i64_w, i32_w]
            rfl
           refine one_ (i := 30) (N := some 75) #[true, true, true, true, true, true, true, true, true, true, true, true, true, true, true, true, true, true, true, true, true, true, true, true, true, true, true, true, true, true, true, false, false, false, false, false, false, false, false, false, false, false, false] rfl rfl (one_of HT_.out (by kernel_rfl)) (by decide) (fun K hK => ?_)
           refine goes_ Try.func16 (by kernel_rfl) rfl #[.agg #[.string a0_0, .int .i64 a0_1, .slice A0_2 l0_2.length c0_2, .int .i64 a0_3, .slice A0_4 l0_4.length c0_4, .int .i64 a0_5]] (by rfl) rfl rfl (by (try simp only [List.map_toArray, List.map_cons, List.map_nil]); first | done | rfl | (simp only [List.length_drop, List.length_take]; rfl)) ?_
           with_reducible refine (metric_Check.calls a0_0 a0_1 _ _ l0_2 a0_3 _ _ l0_4 a0_5 t464 _ ?side1 ?side2 ?side3 ?side4 A19.out).mono ?_
           (case side1 => repeat (first | exact (Kd.C_below HR0_2.out HB.out) | (with_reducible refine Kd.C_alloc ?_ _) | (with_reducible refine Kd.C_drewN ?_ _) | (with_reducible refine Kd.C_drew ?_)))
           (case side2 => exact HC0_2.out)
           (case side3 => repeat (first | exact (Kd.C_below HR0_4.out HB.out) | (with_reducible refine Kd.C_alloc ?_ _) | (with_reducible refine Kd.C_drewN ?_ _) | (with_reducible refine Kd.C_drew ?_)))
           (case side4 => exact HC0_4.out)
           rintro e w79 ⟨rfl, hb⟩
           refine ⟨_, rfl, ?_⟩
           have n0_ := Aside0.mk (Kd.R_below (by (with_reducible repeat (first | apply Kd.R_alloc | apply Kd.R_drewN | apply Kd.R_drew)); exact HO433.out) hb)
           have n1_ := Aside0.mk (Kd.V_below (by (with_reducible repeat (first | apply Kd.V_alloc | apply Kd.V_drewN | apply Kd.V_drew)); exact HO437.out) hb)
           have n2_ := Aside0.mk (Kd.R_below (by (with_reducible repeat (first | apply Kd.R_alloc | apply Kd.R_drewN | apply Kd.R_drew)); exact HO450.out) hb)
           have n3_ := Aside0.mk (Kd.V_below (by (with_reducible repeat (first | apply Kd.V_alloc | apply Kd.V_drewN | apply Kd.V_drew)); exact HO454.out) hb)
           have n4_ := Aside0.mk (blk_below (g := gb426) (o := .cells #[.string a0_0, .int .i64 a0_1, .slice A0_2 l0_2.length c0_2, .int .i64 a0_3, .slice A0_4 l0_4.length c0_4, .int .i64 a0_5] 25 (0, 0)) (by (with_reducible repeat (first | refine blk_drewN ?_ _ | refine blk_drew ?_ | refine blk_alloc ?_ _)); exact BK426.out) hb)
           have n5_ := Aside0.mk (blk_below (g := gb440) (o := .cells #[.string t429, .int .i64 t430, .slice Ao62 t431.length co62, .int .i64 t434, .slice Ao63 t435.length co63, .int .i64 t438] 25 (0, 0)) (by (with_reducible repeat (first | refine blk_drewN ?_ _ | refine blk_drew ?_ | refine blk_alloc ?_ _)); exact BK440.out) hb)
           have n6_ := Aside0.mk (blk_below (g := gb457) (o := .cells #[.string t446, .int .i64 t447, .slice Ao69 t448.length co69, .int .i64 t451, .slice Ao70 t452.length co70, .int .i64 t455] 25 (0, 0)) (by (with_reducible repeat (first | refine blk_drewN ?_ _ | refine blk_drew ?_ | refine blk_alloc ?_ _)); exact BK457.out) hb)
           have n7_ := Aside0.mk (below_step (by repeat (first | (with_reducible first | exact HB.out | apply below_alloc | apply pw_below_drewN | apply below_drew1 | refine below_set ?_ GE426.out | refine below_set ?_ GE440.out | refine below_set ?_ GE457.out) | exact HB.out)) hb)
           clear HO433
           clear HO437
           clear HO450
           clear HO454
           clear BK426
           clear BK440
           clear BK457
           clear HB
           have HO433 := n0_
           have HO437 := n1_
           have HO450 := n2_
           have HO454 := n3_
           have BK426 := n4_
           have BK440 := n5_
           have BK457 := n6_
           have HB := n7_
           clear n0_ n1_ n2_ n3_ n4_ n5_ n6_ n7_
           (try clear hb)
           (try clear hb2)
           (try clear hk)
           (try clear hi)
           refine hK.out _ _ ⟨(blk_cell BK440.out 0).trans rfl, (blk_cell BK440.out 1).trans rfl, (blk_cell BK440.out 2).trans rfl, (blk_cell BK440.out 3).trans rfl, (blk_cell BK440.out 4).trans rfl, (blk_cell BK440.out 5).trans rfl, (blk_cell BK457.out 0).trans rfl, (blk_cell BK457.out 1).trans rfl, (blk_cell BK457.out 2).trans rfl, (blk_cell BK457.out 3).trans rfl, (blk_cell BK457.out 4).trans rfl, (blk_cell BK457.out 5).trans rfl, (blk_cell BK426.out 0).trans rfl, (blk_cell BK426.out 1).trans rfl, (blk_cell BK426.out 2).trans rfl, (blk_cell BK426.out 3).trans rfl, (blk_cell BK426.out 4).trans rfl, (blk_cell BK426.out 5).trans rfl⟩ (fun hHeld => ?_)
           clear hK K
           refine norm_ (a' := ?_) ?_ ?_
           rotate_left
           ·show Act.put _ (some 75) _ = _
            simp only [Act.put, List.setIfInBounds_toArray, List.set_cons_zero, List.set_cons_succ, i64_w, i32_w]
            rfl
           refine pure_ (i := 31) (N := some 76) (v := ?_) (a' := ?_) #[true, true, true, true, true, true, true, true, true, true, true, true, true, true, true, true, true, true, true, true, true, true, true, true, true, true, true, true, true, true, true, true, false, false, false, false, false, false, false, false, false, false, false] rfl rfl (any_of HT_.out (by kernel_rfl)) (fun _ _ _ h => h) (Or.inl ⟨by rfl, ?_⟩) ?_ ?_
           rotate_left
           ·intro w'
            go_simp
            with_reducible rfl
           rotate_left
           ·simp only [Act.put, List.setIfInBounds_toArray, List.set_cons_zero, List.set_cons_succ, i64_w, i32_w]
            rfl
           refine pure_ (i := 32) (N := some 77) (v := ?_) (a' := ?_) #[true, true, true, true, true, true, true, true, true, true, true, true, true, true, true, true, true, true, true, true, true, true, true, true, true, true, true, true, true, true, true, true, true, false, false, false, false, false, false, false, false, false, false] rfl rfl (any_of HT_.out (by kernel_rfl)) (fun _ _ _ h => h) (Or.inl ⟨by rfl, ?_⟩) ?_ ?_
           rotate_left
           ·intro w'
            go_simp
            with_reducible rfl
           rotate_left
           ·simp only [Act.put, List.setIfInBounds_toArray, List.set_cons_zero, List.set_cons_succ, i64_w, i32_w]
            rfl
           refine pure_ (i := 33) (N := some 78) (v := undef) (a' := ?_) #[true, true, true, true, true, true, true, true, true, true, true, true, true, true, true, true, true, true, true, true, true, true, true, true, true, true, true, true, true, true, true, true, true, true, false, false, false, false, false, false, false, false, false] rfl rfl (any_of HT_.out (by kernel_rfl)) (fun _ _ _ h => h) (Or.inr ⟨by rfl, rfl⟩) ?_ ?_
           rotate_left
           ·simp only [Act.put, List.setIfInBounds_toArray, List.set_cons_zero, List.set_cons_succ, i64_w, i32_w]
            rfl
           refine pure_ (i := 34) (N := some 79) (v := undef) (a' := ?_) #[true, true, true, true, true, true, true, true, true, true, true, true, true, true, true, true, true, true, true, true, true, true, true, true, true, true, true, true, true, true, true, true, true, true, true, false, false, false, false, false, false, false, false] rfl rfl (any_of HT_.out (by kernel_rfl)) (fun _ _ _ h => h) (Or.inr ⟨by rfl, rfl⟩) ?_ ?_
           rotate_left
           ·simp only [Act.put, List.setIfInBounds_toArray, List.set_cons_zero, List.set_cons_succ, i64_w, i32_w]
            rfl
           refine pure_ (i := 35) (N := some 80) (v := undef) (a' := ?_) #[true, true, true, true, true, true, true, true, true, true, true, true, true, true, true, true, true, true, true, true, true, true, true, true, true, true, true, true, true, true, true, true, true, true, true, true, false, false, false, false, false, false, false] rfl rfl (any_of HT_.out (by kernel_rfl)) (fun _ _ _ h => h) (Or.inr ⟨by rfl, rfl⟩) ?_ ?_
           rotate_left
           ·simp only [Act.put, List.setIfInBounds_toArray, List.set_cons_zero, List.set_cons_succ, i64_w, i32_w]
            rfl
           refine pure_ (i := 36) (N := some 81) (v := ?_) (a' := ?_) #[true, true, true, true, true, true, true, true, true, true, true, true, true, true, true, true, true, true, true, true, true, true, true, true, true, true, true, true, true, true, true, true, true, true, true, true, true, false, false, false, false, false, false] rfl rfl (any_of HT_.out (by kernel_rfl)) (fun _ _ _ h => h) (Or.inl ⟨by rfl, ?_⟩) ?_ ?_
           rotate_left
           ·intro w'
            go_simp
            with_reducible rfl
           rotate_left
           ·simp only [Act.put, List.setIfInBounds_toArray, List.set_cons_zero, List.set_cons_succ, i64_w, i32_w]
            rfl
           refine pure_ (i := 37) (N := some 82) (v := ?_) (a' := ?_) #[true, true, true, true, true, true, true, true, true, true, true, true, true, true, true, true, true, true, true, true, true, true, true, true, true, true, true, true, true, true, true, true, true, true, true, true, true, true, false, false, false, false, false] rfl rfl (any_of HT_.out (by kernel_rfl)) (fun _ _ _ h => h) (Or.inl ⟨by rfl, ?_⟩) ?_ ?_
           rotate_left
           ·intro w'
            go_simp
            with_reducible rfl
           rotate_left
           ·simp only [Act.put, List.setIfInBounds_toArray, List.set_cons_zero, List.set_cons_succ, i64_w, i32_w]
            rfl
           refine pure_ (i := 38) (N := some 83) (v := ?_) (a' := ?_) #[true, true, true, true, true, true, true, true, true, true, true, true, true, true, true, true, true, true, true, true, true, true, true, true, true, true, true, true, true, true, true, true, true, true, true, true, true, true, true, false, false, false, false] rfl rfl (any_of HT_.out (by kernel_rfl)) (fun _ _ _ h => h) (Or.inl ⟨by rfl, ?_⟩) ?_ ?_
           rotate_left
           ·intro w'
            go_simp
            with_reducible rfl
           rotate_left
           ·simp only [Act.put, List.setIfInBounds_toArray, List.set_cons_zero, List.set_cons_succ, i64_w, i32_w]
            rfl
           refine pure_ (i := 39) (N := some 84) (v := ?_) (a' := ?_) #[true, true, true, true, true, true, true, true, true, true, true, true, true, true, true, true, true, true, true, true, true, true, true, true, true, true, true, true, true, true, true, true, true, true, true, true, true, true, true, true, false, false, false] rfl rfl (any_of HT_.out (by kernel_rfl)) (fun _ _ _ h => h) (Or.inl ⟨by rfl, ?_⟩) ?_ ?_
           rotate_left
           ·intro w'
            go_simp
            with_reducible rfl
           rotate_left
           ·simp only [Act.put, List.setIfInBounds_toArray, List.set_cons_zero, List.set_cons_succ, i64_w, i32_w]
            rfl
           refine one_ (i := 40) (N := some 85) #[true, true, true, true, true, true, true, true, true, true, true, true, true, true, true, true, true, true, true, true, true, true, true, true, true, true, true, true, true, true, true, true, true, true, true, true, true, true, true, true, true, false, false] rfl rfl (one_of HT_.out (by kernel_rfl)) (by decide) (fun K hK => ?_)
           refine goes_ Try.func15 (by kernel_rfl) rfl #[] (by rfl) rfl rfl (by (try simp only [List.map_toArray, List.map_cons, List.map_nil]); first | done | rfl | (simp only [List.length_drop, List.length_take]; rfl)) ?_
           with_reducible refine (forebaylaw07_awake.calls k  t467 _ A53.out).mono ?_
           rintro e w80 ⟨rfl, hb⟩
           refine ⟨_, rfl, ?_⟩
           have n0_ := Aside0.mk (Kd.R_below (by (with_reducible repeat (first | apply Kd.R_alloc | apply Kd.R_drewN | apply Kd.R_drew)); exact HO433.out) hb)
           have n1_ := Aside0.mk (Kd.V_below (by (with_reducible repeat (first | apply Kd.V_alloc | apply Kd.V_drewN | apply Kd.V_drew)); exact HO437.out) hb)
           have n2_ := Aside0.mk (Kd.R_below (by (with_reducible repeat (first | apply Kd.R_alloc | apply Kd.R_drewN | apply Kd.R_drew)); exact HO450.out) hb)
           have n3_ := Aside0.mk (Kd.V_below (by (with_reducible repeat (first | apply Kd.V_alloc | apply Kd.V_drewN | apply Kd.V_drew)); exact HO454.out) hb)
           have n4_ := Aside0.mk (blk_below (g := gb426) (o := .cells #[.string a0_0, .int .i64 a0_1, .slice A0_2 l0_2.length c0_2, .int .i64 a0_3, .slice A0_4 l0_4.length c0_4, .int .i64 a0_5] 25 (0, 0)) (by (with_reducible repeat (first | refine blk_drewN ?_ _ | refine blk_drew ?_ | refine blk_alloc ?_ _)); exact BK426.out) hb)
           have n5_ := Aside0.mk (blk_below (g := gb440) (o := .cells #[.string t429, .int .i64 t430, .slice Ao62 t431.length co62, .int .i64 t434, .slice Ao63 t435.length co63, .int .i64 t438] 25 (0, 0)) (by (with_reducible repeat (first | refine blk_drewN ?_ _ | refine blk_drew ?_ | refine blk_alloc ?_ _)); exact BK440.out) hb)
           have n6_ := Aside0.mk (blk_below (g := gb457) (o := .cells #[.string t446, .int .i64 t447, .slice Ao69 t448.length co69, .int .i64 t451, .slice Ao70 t452.length co70, .int .i64 t455] 25 (0, 0)) (by (with_reducible repeat (first | refine blk_drewN ?_ _ | refine blk_drew ?_ | refine blk_alloc ?_ _)); exact BK457.out) hb)
           have n7_ := Aside0.mk (below_step (by repeat (first | (with_reducible first | exact HB.out | apply below_alloc | apply pw_below_drewN | apply below_drew1 | refine below_set ?_ GE426.out | refine below_set ?_ GE440.out | refine below_set ?_ GE457.out) | exact HB.out)) hb)
           clear HO433
           clear HO437
           clear HO450
           clear HO454
           clear BK426
           clear BK440
           clear BK457
           clear HB
           have HO433 := n0_
           have HO437 := n1_
           have HO450 := n2_
           have HO454 := n3_
           have BK426 := n4_
           have BK440 := n5_
           have BK457 := n6_
           have HB := n7_
           clear n0_ n1_ n2_ n3_ n4_ n5_ n6_ n7_
           (try clear hb)
           (try clear hb2)
           (try clear hk)
           (try clear hi)
           refine hK.out _ _ ⟨(blk_cell BK440.out 0).trans rfl, (blk_cell BK440.out 1).trans rfl, (blk_cell BK440.out 2).trans rfl, (blk_cell BK440.out 3).trans rfl, (blk_cell BK440.out 4).trans rfl, (blk_cell BK440.out 5).trans rfl, (blk_cell BK457.out 0).trans rfl, (blk_cell BK457.out 1).trans rfl, (blk_cell BK457.out 2).trans rfl, (blk_cell BK457.out 3).trans rfl, (blk_cell BK457.out 4).trans rfl, (blk_cell BK457.out 5).trans rfl, (blk_cell BK426.out 0).trans rfl, (blk_cell BK426.out 1).trans rfl, (blk_cell BK426.out 2).trans rfl, (blk_cell BK426.out 3).trans rfl, (blk_cell BK426.out 4).trans rfl, (blk_cell BK426.out 5).trans rfl⟩ (fun hHeld => ?_)
           clear hK K
           refine norm_ (a' := ?_) ?_ ?_
           rotate_left
           ·show Act.put _ (some 85) _ = _
            simp only [Act.put, List.setIfInBounds_toArray, List.set_cons_zero, List.set_cons_succ, i64_w, i32_w]
            rfl
           refine pure_ (i := 41) (N := some 86) (v := ?_) (a' := ?_) #[true, true, true, true, true, true, true, true, true, true, true, true, true, true, true, true, true, true, true, true, true, true, true, true, true, true, true, true, true, true, true, true, true, true, true, true, true, true, true, true, true, true, false] rfl rfl (any_of HT_.out (by kernel_rfl)) (fun _ _ _ h => h) (Or.inl ⟨by rfl, ?_⟩) ?_ ?_
           rotate_left
           ·intro w'
            go_simp
            with_reducible rfl
           rotate_left
           ·simp only [Act.put, List.setIfInBounds_toArray, List.set_cons_zero, List.set_cons_succ, i64_w, i32_w]
            rfl
           refine pure_ (i := 42) (N := some 2) (v := ?_) (a' := ?_) #[true, true, true, true, true, true, true, true, true, true, true, true, true, true, true, true, true, true, true, true, true, true, true, true, true, true, true, true, true, true, true, true, true, true, true, true, true, true, true, true, true, true, true] rfl rfl (any_of HT_.out (by kernel_rfl)) (fun _ _ _ h => h) (Or.inl ⟨by rfl, ?_⟩) ?_ ?_
           rotate_left
           ·intro w'
            go_simp
            with_reducible rfl
           rotate_left
           ·simp only [Act.put, List.setIfInBounds_toArray, List.set_cons_zero, List.set_cons_succ, i64_w, i32_w]
            rfl
           refine done_ (done_of HT_.out (by kernel_rfl)) ?_
           try go_wp2
           go_ret
           exact ⟨by first | rfl | (simp [errW_none, errW_some] <;> rfl) | (simp [*, errW_none, errW_some] <;> rfl), by repeat (first | (with_reducible first | exact HB.out | apply below_alloc | apply pw_below_drewN | apply below_drew1 | refine below_set ?_ GE426.out | refine below_set ?_ GE440.out | refine below_set ?_ GE457.out) | exact HB.out)⟩
          ·rw [if_neg c52] at H
           have c52b0 : (t463 == false) = false := by simpa using c52
           (try (have c52b1 : decide (t463 = false) = false := by simpa using c52))
           (try (have c52b2 : (t463 == false) = false := by simpa using c52))
           (try (have c52b3 : ¬ (t463 = false) := by simpa using c52))
           clear c52
           exact absurd H (by simp)
        ·replace c17 := Bool.eq_false_iff.mpr c17
         subst c17
         have H1 : (none) = some r := by rw [if_neg (show ¬ (false = true) by decide)] at H; exact H
         clear H
         have H := H1
         clear H1
         exact absurd H (by simp)
       ·replace c15 := Bool.eq_false_iff.mpr c15
        subst c15
        have H1 : (none) = some r := by rw [if_neg (show ¬ (false = true) by decide)] at H; exact H
        clear H
        have H := H1
        clear H1
        exact absurd H (by simp)
      ·rw [if_neg c13] at H
       have c13b0 : (t456 == 0) = false := beq_eq_false_iff_ne.mpr c13
       have c13b1 : (t456 != 0) = true := bne_iff_ne.mpr c13
       exact absurd H (by simp)
     ·replace c12 := Bool.eq_false_iff.mpr c12
      subst c12
      have H1 : (none) = some r := by rw [if_neg (show ¬ (false = true) by decide)] at H; exact H
      clear H
      have H := H1
      clear H1
      exact absurd H (by simp)
    ·replace c10 := Bool.eq_false_iff.mpr c10
     subst c10
     have H1 : (none) = some r := by rw [if_neg (show ¬ (false = true) by decide)] at H; exact H
     clear H
     have H := H1
     clear H1
     exact absurd H (by simp)
   ·rw [if_neg c8] at H
    have c8b0 : (t458 == 0) = false := beq_eq_false_iff_ne.mpr c8
    have c8b1 : (t458 != 0) = true := bne_iff_ne.mpr c8
    exact absurd H (by simp)
  ·rw [if_neg c5] at H
   have c5b0 : (t439 == 0) = false := beq_eq_false_iff_ne.mpr c5
   have c5b1 : (t439 != 0) = true := bne_iff_ne.mpr c5
   replace H := Option.bind_eq_some_iff.mp H
   obtain ⟨t441, A810, H⟩ := H
   replace H : (if t441 = 0 then (none) else ((metric_Is.f k a0_0 a0_1 l0_2 a0_3 l0_4 a0_5).bind fun t442 => (if t442 = true then (none) else ((metric_Same.f k a0_0 a0_1 l0_2 a0_3 l0_4 a0_5 a0_0 a0_1 l0_2 a0_3 l0_4 a0_5).bind fun t443 => (if t443 = true then (none) else ((metric_Equal.f k t429 t430 t431 t434 t435 t438 (⟨#[]⟩ : ByteArray) 0 ([] : List (S40)) 0 ([] : List (S37)) 0).bind fun t444 => (if t444 = true then ((forebaylaw07_awake.f k).bind fun t445 => (some t445)) else (none)))))))) = some r := H
   have A81 := Aside0.mk A810
   clear A810
   by_cases c82 : t441 = 0
   ·rw [if_pos c82] at H
    exact absurd H (by simp)
   ·rw [if_neg c82] at H
    have c82b0 : (t441 == 0) = false := beq_eq_false_iff_ne.mpr c82
    have c82b1 : (t441 != 0) = true := bne_iff_ne.mpr c82
    replace H := Option.bind_eq_some_iff.mp H
    obtain ⟨t442, A830, H⟩ := H
    replace H : (if t442 = true then (none) else ((metric_Same.f k a0_0 a0_1 l0_2 a0_3 l0_4 a0_5 a0_0 a0_1 l0_2 a0_3 l0_4 a0_5).bind fun t443 => (if t443 = true then (none) else ((metric_Equal.f k t429 t430 t431 t434 t435 t438 (⟨#[]⟩ : ByteArray) 0 ([] : List (S40)) 0 ([] : List (S37)) 0).bind fun t444 => (if t444 = true then ((forebaylaw07_awake.f k).bind fun t445 => (some t445)) else (none)))))) = some r := H
    have A83 := Aside0.mk A830
    clear A830
    by_cases c84 : t442 = true
    ·subst c84
     have H1 : (none) = some r := by rw [if_pos rfl] at H; exact H
     clear H
     have H := H1
     clear H1
     exact absurd H (by simp)
    ·replace c84 := Bool.eq_false_iff.mpr c84
     subst c84
     have H1 : ((metric_Same.f k a0_0 a0_1 l0_2 a0_3 l0_4 a0_5 a0_0 a0_1 l0_2 a0_3 l0_4 a0_5).bind fun t443 => (if t443 = true then (none) else ((metric_Equal.f k t429 t430 t431 t434 t435 t438 (⟨#[]⟩ : ByteArray) 0 ([] : List (S40)) 0 ([] : List (S37)) 0).bind fun t444 => (if t444 = true then ((forebaylaw07_awake.f k).bind fun t445 => (some t445)) else (none))))) = some r := by rw [if_neg (show ¬ (false = true) by decide)] at H; exact H
     clear H
     have H := H1
     clear H1
     replace H := Option.bind_eq_some_iff.mp H
     obtain ⟨t443, A850, H⟩ := H
     replace H : (if t443 = true then (none) else ((metric_Equal.f k t429 t430 t431 t434 t435 t438 (⟨#[]⟩ : ByteArray) 0 ([] : List (S40)) 0 ([] : List (S37)) 0).bind fun t444 => (if t444 = true then ((forebaylaw07_awake.f k).bind fun t445 => (some t445)) else (none)))) = some r := H
     have A85 := Aside0.mk A850
     clear A850
     by_cases c86 : t443 = true
     ·subst c86
      have H1 : (none) = some r := by rw [if_pos rfl] at H; exact H
      clear H
      have H := H1
      clear H1
      exact absurd H (by simp)
     ·replace c86 := Bool.eq_false_iff.mpr c86
      subst c86
      have H1 : ((metric_Equal.f k t429 t430 t431 t434 t435 t438 (⟨#[]⟩ : ByteArray) 0 ([] : List (S40)) 0 ([] : List (S37)) 0).bind fun t444 => (if t444 = true then ((forebaylaw07_awake.f k).bind fun t445 => (some t445)) else (none))) = some r := by rw [if_neg (show ¬ (false = true) by decide)] at H; exact H
      clear H
      have H := H1
      clear H1
      replace H := Option.bind_eq_some_iff.mp H
      obtain ⟨t444, A870, H⟩ := H
      replace H : (if t444 = true then ((forebaylaw07_awake.f k).bind fun t445 => (some t445)) else (none)) = some r := H
      have A87 := Aside0.mk A870
      clear A870
      by_cases c88 : t444 = true
      ·subst c88
       have H1 : ((forebaylaw07_awake.f k).bind fun t445 => (some t445)) = some r := by rw [if_pos rfl] at H; exact H
       clear H
       have H := H1
       clear H1
       replace H := Option.bind_eq_some_iff.mp H
       obtain ⟨t445, A890, H⟩ := H
       replace H : (some t445) = some r := H
       have A89 := Aside0.mk A890
       clear A890
       obtain rfl := Option.some.inj H
       go_enter Try.func8, Try.ntmps8
       go_wp2_with (first | ((with_reducible refine gate_dst (N := 1) rfl ?_); refine box_event ?hg (N := 1) ?hd (cs := #[.string a0_0, .int .i64 a0_1, .slice A0_2 l0_2.length c0_2, .int .i64 a0_3, .slice A0_4 l0_4.length c0_4, .int .i64 a0_5]) (t := 25) ?hr ?_; (case hd => rfl); (case hg => rfl); (case hr => first | (go_simp; done) | (go_simp; rfl)); intro gb426 hg w90 hbox hb; have n0_ := Aside0.mk (below_step (by repeat (first | (with_reducible first | exact HB.out | apply below_alloc | apply pw_below_drewN | apply below_drew1) | exact HB.out)) hb); have n1_ := Aside0.mk (hbox); have n2_ := Aside0.mk ((by rw [hg]; exact (below_size (by repeat (first | (with_reducible first | exact HB.out | apply below_alloc | apply pw_below_drewN | apply below_drew1) | exact HB.out))) : w.heap.size ≤ gb426)); have n3_ := Aside0.mk ((by rw [hg]; exact (below_size (by repeat (first | (with_reducible first | exact HB.out | apply below_alloc | apply pw_below_drewN | apply below_drew1) | exact HB.out))) : w.heap.size ≤ gb426)); clear HB; have HB := n0_; have BK426 := n1_; have GW426 := n2_; have GE426 := n3_; clear n0_ n1_ n2_ n3_; clear hb hbox hg; have hcz91_0 : w90.cell? ⟨gb426, 0, none⟩ = some (.string a0_0) := (blk_cell BK426.out 0).trans rfl; have hcz91_1 : w90.cell? ⟨gb426, 1, none⟩ = some (.int .i64 a0_1) := (blk_cell BK426.out 1).trans rfl; have hcz91_2 : w90.cell? ⟨gb426, 2, none⟩ = some (.slice A0_2 l0_2.length c0_2) := (blk_cell BK426.out 2).trans rfl; have hcz91_3 : w90.cell? ⟨gb426, 3, none⟩ = some (.int .i64 a0_3) := (blk_cell BK426.out 3).trans rfl; have hcz91_4 : w90.cell? ⟨gb426, 4, none⟩ = some (.slice A0_4 l0_4.length c0_4) := (blk_cell BK426.out 4).trans rfl; have hcz91_5 : w90.cell? ⟨gb426, 5, none⟩ = some (.int .i64 a0_5) := (blk_cell BK426.out 5).trans rfl; have hfz91_0 := blk_frozen BK426.out 0; have hfz91_1 := blk_frozen BK426.out 1; have hfz91_2 := blk_frozen BK426.out 2; have hfz91_3 := blk_frozen BK426.out 3; have hfz91_4 := blk_frozen BK426.out 4; have hfz91_5 := blk_frozen BK426.out 5) | ((with_reducible refine gate_callee (f := 14) rfl ?_); refine goesL_ (some 8) rfl rfl Try.func14 (by kernel_rfl) rfl #[.agg #[.string a0_0, .int .i64 a0_1, .slice A0_2 l0_2.length c0_2, .int .i64 a0_3, .slice A0_4 l0_4.length c0_4, .int .i64 a0_5]] rfl (by (try simp only [List.map_toArray, List.map_cons, List.map_nil]); first | done | rfl | (simp only [List.length_drop, List.length_take]; rfl)) ?_; (with_reducible refine (forebaylaw07_Few.calls k a0_0 a0_1 _ _ l0_2 a0_3 _ _ l0_4 a0_5 true _ ?side1 ?side2 ?side3 ?side4 A2.out).mono ?_); (case side1 => repeat (first | exact (Kd.C_below HR0_2.out HB.out) | (with_reducible refine Kd.C_alloc ?_ _) | (with_reducible refine Kd.C_drewN ?_ _) | (with_reducible refine Kd.C_drew ?_))); (case side2 => exact HC0_2.out); (case side3 => repeat (first | exact (Kd.C_below HR0_4.out HB.out) | (with_reducible refine Kd.C_alloc ?_ _) | (with_reducible refine Kd.C_drewN ?_ _) | (with_reducible refine Kd.C_drew ?_))); (case side4 => exact HC0_4.out); rintro e w92 ⟨rfl, hb⟩; refine ⟨_, rfl, ?_⟩; have n0_ := Aside0.mk (blk_below (g := gb426) (o := .cells #[.string a0_0, .int .i64 a0_1, .slice A0_2 l0_2.length c0_2, .int .i64 a0_3, .slice A0_4 l0_4.length c0_4, .int .i64 a0_5] 25 (0, 0)) (by (with_reducible repeat (first | refine blk_drewN ?_ _ | refine blk_drew ?_ | refine blk_alloc ?_ _)); exact BK426.out) hb); have n1_ := Aside0.mk (below_step (by repeat (first | (with_reducible first | exact HB.out | apply below_alloc | apply pw_below_drewN | apply below_drew1 | refine below_set ?_ GE426.out) | exact HB.out)) hb); clear BK426; clear HB; have BK426 := n0_; have HB := n1_; clear n0_ n1_; (try clear hb); (try clear hb2); (try clear hk); (try clear hi); have hcz93_0 : w92.cell? ⟨gb426, 0, none⟩ = some (.string a0_0) := (blk_cell BK426.out 0).trans rfl; have hcz93_1 : w92.cell? ⟨gb426, 1, none⟩ = some (.int .i64 a0_1) := (blk_cell BK426.out 1).trans rfl; have hcz93_2 : w92.cell? ⟨gb426, 2, none⟩ = some (.slice A0_2 l0_2.length c0_2) := (blk_cell BK426.out 2).trans rfl; have hcz93_3 : w92.cell? ⟨gb426, 3, none⟩ = some (.int .i64 a0_3) := (blk_cell BK426.out 3).trans rfl; have hcz93_4 : w92.cell? ⟨gb426, 4, none⟩ = some (.slice A0_4 l0_4.length c0_4) := (blk_cell BK426.out 4).trans rfl; have hcz93_5 : w92.cell? ⟨gb426, 5, none⟩ = some (.int .i64 a0_5) := (blk_cell BK426.out 5).trans rfl; have hfz93_0 := blk_frozen BK426.out 0; have hfz93_1 := blk_frozen BK426.out 1; have hfz93_2 := blk_frozen BK426.out 2; have hfz93_3 := blk_frozen BK426.out 3; have hfz93_4 := blk_frozen BK426.out 4; have hfz93_5 := blk_frozen BK426.out 5) | ((with_reducible refine gate_callee (f := 18) rfl ?_); refine goesL_ (some 13) rfl rfl Try.func18 (by kernel_rfl) rfl #[.agg #[.string a0_0, .int .i64 a0_1, .slice A0_2 l0_2.length c0_2, .int .i64 a0_3, .slice A0_4 l0_4.length c0_4, .int .i64 a0_5]] rfl (by (try simp only [List.map_toArray, List.map_cons, List.map_nil]); first | done | rfl | (simp only [List.length_drop, List.length_take]; rfl)) ?_; (with_reducible refine (metric_Normal.calls a0_0 a0_1 _ _ l0_2 a0_3 _ _ l0_4 a0_5 t429 t430 t431 t434 t435 t438 t439 _ ?side1 ?side2 ?side3 ?side4 A4.out).mono ?_); (case side1 => repeat (first | exact (Kd.C_below HR0_2.out HB.out) | (with_reducible refine Kd.C_alloc ?_ _) | (with_reducible refine Kd.C_drewN ?_ _) | (with_reducible refine Kd.C_drew ?_))); (case side2 => exact HC0_2.out); (case side3 => repeat (first | exact (Kd.C_below HR0_4.out HB.out) | (with_reducible refine Kd.C_alloc ?_ _) | (with_reducible refine Kd.C_drewN ?_ _) | (with_reducible refine Kd.C_drew ?_))); (case side4 => exact HC0_4.out); rintro e w94 ⟨v432, v436, rfl, ho0, ho1, hb⟩; refine ⟨_, rfl, ?_⟩; have n0_ := Aside0.mk (Kd.R_lower (Kd.R_mono (ok' := fun k_ => True) ho0 (fun _ hk_ => trivial)) (below_size (by repeat (first | (with_reducible first | exact HB.out | apply below_alloc | apply pw_below_drewN | apply below_drew1 | refine below_set ?_ GE426.out) | exact HB.out)))); have n1_ := Aside0.mk (Kd.V_lower (Kd.V_mono (ok' := fun k_ => some k_ ≠ (v432 : Value).ownBlock ∧ k_ ≠ gb426) ho1 (fun k_ hk_ => ⟨hk_.2, (Kd.freshB (g := gb426) (o := .cells #[.string a0_0, .int .i64 a0_1, .slice A0_2 l0_2.length c0_2, .int .i64 a0_3, .slice A0_4 l0_4.length c0_4, .int .i64 a0_5] 25 (0, 0)) (by (with_reducible repeat (first | refine blk_drewN ?_ _ | refine blk_drew ?_ | refine blk_alloc ?_ _)); exact BK426.out) k_ hk_.1)⟩)) (below_size (by repeat (first | (with_reducible first | exact HB.out | apply below_alloc | apply pw_below_drewN | apply below_drew1 | refine below_set ?_ GE426.out) | exact HB.out)))); have n2_ := Aside0.mk (blk_below (g := gb426) (o := .cells #[.string a0_0, .int .i64 a0_1, .slice A0_2 l0_2.length c0_2, .int .i64 a0_3, .slice A0_4 l0_4.length c0_4, .int .i64 a0_5] 25 (0, 0)) (by (with_reducible repeat (first | refine blk_drewN ?_ _ | refine blk_drew ?_ | refine blk_alloc ?_ _)); exact BK426.out) hb); have n3_ := Aside0.mk (below_step (by repeat (first | (with_reducible first | exact HB.out | apply below_alloc | apply pw_below_drewN | apply below_drew1 | refine below_set ?_ GE426.out) | exact HB.out)) hb); clear BK426; clear HB; have HO433 := n0_; have HO437 := n1_; have BK426 := n2_; have HB := n3_; clear n0_ n1_ n2_ n3_; (try clear hb); (try clear hb2); (try clear hk); (try clear hi); (try clear ho0); (try clear ho1)) | ((with_reducible refine gate_dst (N := 3) rfl ?_); refine box_event ?hg (N := 3) ?hd (cs := #[.string (⟨#[]⟩ : ByteArray), .int .i64 0, .slice none 0 0, .int .i64 0, .slice none 0 0, .int .i64 0]) (t := 25) ?hr ?_; (case hd => rfl); (case hg => rfl); (case hr => first | (go_simp; done) | (go_simp; rfl)); intro gb440 hg w95 hbox hb; have n0_ := Aside0.mk (Kd.R_below (by (with_reducible repeat (first | apply Kd.R_alloc | apply Kd.R_drewN | apply Kd.R_drew)); exact HO433.out) hb); have n1_ := Aside0.mk (Kd.V_below (Kd.V_elderB (by (with_reducible repeat (first | apply Kd.V_alloc | apply Kd.V_drewN | apply Kd.V_drew)); exact HO437.out) gb440 (Nat.le_of_eq hg.symm)) hb); have n2_ := Aside0.mk (blk_below (g := gb426) (o := .cells #[.string a0_0, .int .i64 a0_1, .slice A0_2 l0_2.length c0_2, .int .i64 a0_3, .slice A0_4 l0_4.length c0_4, .int .i64 a0_5] 25 (0, 0)) (by (with_reducible repeat (first | refine blk_drewN ?_ _ | refine blk_drew ?_ | refine blk_alloc ?_ _)); exact BK426.out) hb); have n3_ := Aside0.mk (below_step (by repeat (first | (with_reducible first | exact HB.out | apply below_alloc | apply pw_below_drewN | apply below_drew1 | refine below_set ?_ GE426.out) | exact HB.out)) hb); have n4_ := Aside0.mk (hbox); have n5_ := Aside0.mk ((by rw [hg]; exact (below_size (by repeat (first | (with_reducible first | exact HB.out | apply below_alloc | apply pw_below_drewN | apply below_drew1 | refine below_set ?_ GE426.out) | exact HB.out))) : w.heap.size ≤ gb440)); have n6_ := Aside0.mk ((by rw [hg]; exact (below_size (by repeat (first | (with_reducible first | exact HB.out | apply below_alloc | apply pw_below_drewN | apply below_drew1 | refine below_set ?_ GE426.out) | exact HB.out))) : w.heap.size ≤ gb440)); have n7_ := Aside0.mk ((by rw [hg]; exact Nat.ne_of_lt (blk_lt (g := gb426) (o := .cells #[.string a0_0, .int .i64 a0_1, .slice A0_2 l0_2.length c0_2, .int .i64 a0_3, .slice A0_4 l0_4.length c0_4, .int .i64 a0_5] 25 (0, 0)) (by (with_reducible repeat (first | refine blk_drewN ?_ _ | refine blk_drew ?_ | refine blk_alloc ?_ _)); exact BK426.out)) : gb426 ≠ gb440)); have n8_ := Aside0.mk ((by rw [hg]; exact Nat.ne_of_gt (blk_lt (g := gb426) (o := .cells #[.string a0_0, .int .i64 a0_1, .slice A0_2 l0_2.length c0_2, .int .i64 a0_3, .slice A0_4 l0_4.length c0_4, .int .i64 a0_5] 25 (0, 0)) (by (with_reducible repeat (first | refine blk_drewN ?_ _ | refine blk_drew ?_ | refine blk_alloc ?_ _)); exact BK426.out)) : gb440 ≠ gb426)); clear HO433; clear HO437; clear BK426; clear HB; have HO433 := n0_; have HO437 := n1_; have BK426 := n2_; have HB := n3_; have BK440 := n4_; have GW440 := n5_; have GE440 := n6_; have NB426_440 := n7_; have NB440_426 := n8_; clear n0_ n1_ n2_ n3_ n4_ n5_ n6_ n7_ n8_; clear hb hbox hg; have hnb96 := NB440_426.out; have hnc96 := NB426_440.out; have hcz97_0 : w95.cell? ⟨gb440, 0, none⟩ = some (.string (⟨#[]⟩ : ByteArray)) := (blk_cell BK440.out 0).trans rfl; have hcz97_1 : w95.cell? ⟨gb440, 1, none⟩ = some (.int .i64 0) := (blk_cell BK440.out 1).trans rfl; have hcz97_2 : w95.cell? ⟨gb440, 2, none⟩ = some (.slice none 0 0) := (blk_cell BK440.out 2).trans rfl; have hcz97_3 : w95.cell? ⟨gb440, 3, none⟩ = some (.int .i64 0) := (blk_cell BK440.out 3).trans rfl; have hcz97_4 : w95.cell? ⟨gb440, 4, none⟩ = some (.slice none 0 0) := (blk_cell BK440.out 4).trans rfl; have hcz97_5 : w95.cell? ⟨gb440, 5, none⟩ = some (.int .i64 0) := (blk_cell BK440.out 5).trans rfl; have hfz97_0 := blk_frozen BK440.out 0; have hfz97_1 := blk_frozen BK440.out 1; have hfz97_2 := blk_frozen BK440.out 2; have hfz97_3 := blk_frozen BK440.out 3; have hfz97_4 := blk_frozen BK440.out 4; have hfz97_5 := blk_frozen BK440.out 5; obtain ⟨Ao98, co98, eo98⟩ := Kd.R_slice HO433.out; subst eo98; obtain ⟨Ao99, co99, eo99⟩ := Kd.V_slice HO437.out; subst eo99; have hcz100_0 : w95.cell? ⟨gb426, 0, none⟩ = some (.string a0_0) := (blk_cell BK426.out 0).trans rfl; have hcz100_1 : w95.cell? ⟨gb426, 1, none⟩ = some (.int .i64 a0_1) := (blk_cell BK426.out 1).trans rfl; have hcz100_2 : w95.cell? ⟨gb426, 2, none⟩ = some (.slice A0_2 l0_2.length c0_2) := (blk_cell BK426.out 2).trans rfl; have hcz100_3 : w95.cell? ⟨gb426, 3, none⟩ = some (.int .i64 a0_3) := (blk_cell BK426.out 3).trans rfl; have hcz100_4 : w95.cell? ⟨gb426, 4, none⟩ = some (.slice A0_4 l0_4.length c0_4) := (blk_cell BK426.out 4).trans rfl; have hcz100_5 : w95.cell? ⟨gb426, 5, none⟩ = some (.int .i64 a0_5) := (blk_cell BK426.out 5).trans rfl; have hfz100_0 := blk_frozen BK426.out 0; have hfz100_1 := blk_frozen BK426.out 1; have hfz100_2 := blk_frozen BK426.out 2; have hfz100_3 := blk_frozen BK426.out 3; have hfz100_4 := blk_frozen BK426.out 4; have hfz100_5 := blk_frozen BK426.out 5) | ((with_reducible refine gate_callee (f := 16) rfl ?_); refine goesL_ (some 19) rfl rfl Try.func16 (by kernel_rfl) rfl #[.agg #[.string a0_0, .int .i64 a0_1, .slice A0_2 l0_2.length c0_2, .int .i64 a0_3, .slice A0_4 l0_4.length c0_4, .int .i64 a0_5]] rfl (by (try simp only [List.map_toArray, List.map_cons, List.map_nil]); first | done | rfl | (simp only [List.length_drop, List.length_take]; rfl)) ?_; (with_reducible refine (metric_Check.calls a0_0 a0_1 _ _ l0_2 a0_3 _ _ l0_4 a0_5 t441 _ ?side1 ?side2 ?side3 ?side4 A81.out).mono ?_); (case side1 => exact Kd.C_below HR0_2.out (by repeat (first | (with_reducible first | exact HB.out | apply below_alloc | apply pw_below_drewN | apply below_drew1 | refine below_set ?_ GE426.out | refine below_set ?_ GE440.out) | exact HB.out))); (case side2 => exact HC0_2.out); (case side3 => exact Kd.C_below HR0_4.out (by repeat (first | (with_reducible first | exact HB.out | apply below_alloc | apply pw_below_drewN | apply below_drew1 | refine below_set ?_ GE426.out | refine below_set ?_ GE440.out) | exact HB.out))); (case side4 => exact HC0_4.out); rintro e w101 ⟨rfl, hb⟩; refine ⟨_, rfl, ?_⟩; have n0_ := Aside0.mk (Kd.R_below (by (with_reducible repeat (first | apply Kd.R_alloc | apply Kd.R_drewN | apply Kd.R_drew)); exact (Kd.R_mono (Kd.R_far (p := ⟨gb440, 5, none⟩) (Kd.R_far (p := ⟨gb440, 4, none⟩) (Kd.R_far (p := ⟨gb440, 3, none⟩) (Kd.R_far (p := ⟨gb440, 2, none⟩) (Kd.R_far (p := ⟨gb440, 1, none⟩) (Kd.R_far (p := ⟨gb440, 0, none⟩) (Kd.R_types HO433.out BK440.out (by decide)) (fun _ hk => hk.2) (.string t429)) (fun _ hk => hk.2) (.int .i64 t430)) (fun _ hk => hk.2) (.slice Ao98 t431.length co98)) (fun _ hk => hk.2) (.int .i64 t434)) (fun _ hk => hk.2) (.slice Ao99 t435.length co99)) (fun _ hk => hk.2) (.int .i64 t438)) (fun _ h_ => h_.1))) hb); have n1_ := Aside0.mk (Kd.V_below (by (with_reducible repeat (first | apply Kd.V_alloc | apply Kd.V_drewN | apply Kd.V_drew)); exact (Kd.V_mono (Kd.V_far (p := ⟨gb440, 5, none⟩) (Kd.V_far (p := ⟨gb440, 4, none⟩) (Kd.V_far (p := ⟨gb440, 3, none⟩) (Kd.V_far (p := ⟨gb440, 2, none⟩) (Kd.V_far (p := ⟨gb440, 1, none⟩) (Kd.V_far (p := ⟨gb440, 0, none⟩) (Kd.V_mono HO437.out (fun k_ hk => (⟨hk, hk.2⟩ : _ ∧ k_ ≠ gb440))) (fun _ hk => hk.2) (.string t429)) (fun _ hk => hk.2) (.int .i64 t430)) (fun _ hk => hk.2) (.slice Ao98 t431.length co98)) (fun _ hk => hk.2) (.int .i64 t434)) (fun _ hk => hk.2) (.slice Ao99 t435.length co99)) (fun _ hk => hk.2) (.int .i64 t438)) (fun _ h_ => h_.1))) hb); have n2_ := Aside0.mk (blk_below (g := gb426) (o := .cells #[.string a0_0, .int .i64 a0_1, .slice A0_2 l0_2.length c0_2, .int .i64 a0_3, .slice A0_4 l0_4.length c0_4, .int .i64 a0_5] 25 (0, 0)) (by (with_reducible repeat (first | refine blk_drewN ?_ _ | refine blk_drew ?_ | refine blk_alloc ?_ _)); refine blk_far ?_ NB426_440.out _; (with_reducible repeat (first | refine blk_drewN ?_ _ | refine blk_drew ?_ | refine blk_alloc ?_ _)); refine blk_far ?_ NB426_440.out _; (with_reducible repeat (first | refine blk_drewN ?_ _ | refine blk_drew ?_ | refine blk_alloc ?_ _)); refine blk_far ?_ NB426_440.out _; (with_reducible repeat (first | refine blk_drewN ?_ _ | refine blk_drew ?_ | refine blk_alloc ?_ _)); refine blk_far ?_ NB426_440.out _; (with_reducible repeat (first | refine blk_drewN ?_ _ | refine blk_drew ?_ | refine blk_alloc ?_ _)); refine blk_far ?_ NB426_440.out _; (with_reducible repeat (first | refine blk_drewN ?_ _ | refine blk_drew ?_ | refine blk_alloc ?_ _)); refine blk_far ?_ NB426_440.out _; (with_reducible repeat (first | refine blk_drewN ?_ _ | refine blk_drew ?_ | refine blk_alloc ?_ _)); exact BK426.out) hb); have n3_ := Aside0.mk (blk_below (g := gb440) (o := .cells #[.string t429, .int .i64 t430, .slice Ao98 t431.length co98, .int .i64 t434, .slice Ao99 t435.length co99, .int .i64 t438] 25 (0, 0)) (by (with_reducible repeat (first | refine blk_drewN ?_ _ | refine blk_drew ?_ | refine blk_alloc ?_ _)); refine blk_put (cs := #[.string t429, .int .i64 t430, .slice Ao98 t431.length co98, .int .i64 t434, .slice Ao99 t435.length co99, .int .i64 0]) ?_ 5 _ rfl; (with_reducible repeat (first | refine blk_drewN ?_ _ | refine blk_drew ?_ | refine blk_alloc ?_ _)); refine blk_put (cs := #[.string t429, .int .i64 t430, .slice Ao98 t431.length co98, .int .i64 t434, .slice none 0 0, .int .i64 0]) ?_ 4 _ rfl; (with_reducible repeat (first | refine blk_drewN ?_ _ | refine blk_drew ?_ | refine blk_alloc ?_ _)); refine blk_put (cs := #[.string t429, .int .i64 t430, .slice Ao98 t431.length co98, .int .i64 0, .slice none 0 0, .int .i64 0]) ?_ 3 _ rfl; (with_reducible repeat (first | refine blk_drewN ?_ _ | refine blk_drew ?_ | refine blk_alloc ?_ _)); refine blk_put (cs := #[.string t429, .int .i64 t430, .slice none 0 0, .int .i64 0, .slice none 0 0, .int .i64 0]) ?_ 2 _ rfl; (with_reducible repeat (first | refine blk_drewN ?_ _ | refine blk_drew ?_ | refine blk_alloc ?_ _)); refine blk_put (cs := #[.string t429, .int .i64 0, .slice none 0 0, .int .i64 0, .slice none 0 0, .int .i64 0]) ?_ 1 _ rfl; (with_reducible repeat (first | refine blk_drewN ?_ _ | refine blk_drew ?_ | refine blk_alloc ?_ _)); refine blk_put (cs := #[.string (⟨#[]⟩ : ByteArray), .int .i64 0, .slice none 0 0, .int .i64 0, .slice none 0 0, .int .i64 0]) ?_ 0 _ rfl; (with_reducible repeat (first | refine blk_drewN ?_ _ | refine blk_drew ?_ | refine blk_alloc ?_ _)); exact BK440.out) hb); have n4_ := Aside0.mk (below_step (by repeat (first | (with_reducible first | exact HB.out | apply below_alloc | apply pw_below_drewN | apply below_drew1 | refine below_set ?_ GE426.out | refine below_set ?_ GE440.out) | exact HB.out)) hb); clear HO433; clear HO437; clear BK426; clear BK440; clear HB; have HO433 := n0_; have HO437 := n1_; have BK426 := n2_; have BK440 := n3_; have HB := n4_; clear n0_ n1_ n2_ n3_ n4_; (try clear hb); (try clear hb2); (try clear hk); (try clear hi); have hcz102_0 : w101.cell? ⟨gb426, 0, none⟩ = some (.string a0_0) := (blk_cell BK426.out 0).trans rfl; have hcz102_1 : w101.cell? ⟨gb426, 1, none⟩ = some (.int .i64 a0_1) := (blk_cell BK426.out 1).trans rfl; have hcz102_2 : w101.cell? ⟨gb426, 2, none⟩ = some (.slice A0_2 l0_2.length c0_2) := (blk_cell BK426.out 2).trans rfl; have hcz102_3 : w101.cell? ⟨gb426, 3, none⟩ = some (.int .i64 a0_3) := (blk_cell BK426.out 3).trans rfl; have hcz102_4 : w101.cell? ⟨gb426, 4, none⟩ = some (.slice A0_4 l0_4.length c0_4) := (blk_cell BK426.out 4).trans rfl; have hcz102_5 : w101.cell? ⟨gb426, 5, none⟩ = some (.int .i64 a0_5) := (blk_cell BK426.out 5).trans rfl; have hfz102_0 := blk_frozen BK426.out 0; have hfz102_1 := blk_frozen BK426.out 1; have hfz102_2 := blk_frozen BK426.out 2; have hfz102_3 := blk_frozen BK426.out 3; have hfz102_4 := blk_frozen BK426.out 4; have hfz102_5 := blk_frozen BK426.out 5) | (go_at_call 21; (with_reducible refine (metric_Is.calls k a0_0 a0_1 _ _ l0_2 a0_3 _ _ l0_4 a0_5 false _ ?side1 ?side2 ?side3 ?side4 A83.out).mono ?_); (case side1 => repeat (first | exact (Kd.C_below HR0_2.out HB.out) | (with_reducible refine Kd.C_alloc ?_ _) | (with_reducible refine Kd.C_drewN ?_ _) | (with_reducible refine Kd.C_drew ?_))); (case side2 => exact HC0_2.out); (case side3 => repeat (first | exact (Kd.C_below HR0_4.out HB.out) | (with_reducible refine Kd.C_alloc ?_ _) | (with_reducible refine Kd.C_drewN ?_ _) | (with_reducible refine Kd.C_drew ?_))); (case side4 => exact HC0_4.out); rintro e w103 ⟨rfl, hb⟩; have n0_ := Aside0.mk (Kd.R_below (by (with_reducible repeat (first | apply Kd.R_alloc | apply Kd.R_drewN | apply Kd.R_drew)); exact HO433.out) hb); have n1_ := Aside0.mk (Kd.V_below (by (with_reducible repeat (first | apply Kd.V_alloc | apply Kd.V_drewN | apply Kd.V_drew)); exact HO437.out) hb); have n2_ := Aside0.mk (blk_below (g := gb426) (o := .cells #[.string a0_0, .int .i64 a0_1, .slice A0_2 l0_2.length c0_2, .int .i64 a0_3, .slice A0_4 l0_4.length c0_4, .int .i64 a0_5] 25 (0, 0)) (by (with_reducible repeat (first | refine blk_drewN ?_ _ | refine blk_drew ?_ | refine blk_alloc ?_ _)); exact BK426.out) hb); have n3_ := Aside0.mk (blk_below (g := gb440) (o := .cells #[.string t429, .int .i64 t430, .slice Ao98 t431.length co98, .int .i64 t434, .slice Ao99 t435.length co99, .int .i64 t438] 25 (0, 0)) (by (with_reducible repeat (first | refine blk_drewN ?_ _ | refine blk_drew ?_ | refine blk_alloc ?_ _)); exact BK440.out) hb); have n4_ := Aside0.mk (below_step (by repeat (first | (with_reducible first | exact HB.out | apply below_alloc | apply pw_below_drewN | apply below_drew1 | refine below_set ?_ GE426.out | refine below_set ?_ GE440.out) | exact HB.out)) hb); clear HO433; clear HO437; clear BK426; clear BK440; clear HB; have HO433 := n0_; have HO437 := n1_; have BK426 := n2_; have BK440 := n3_; have HB := n4_; clear n0_ n1_ n2_ n3_ n4_; (try clear hb); (try clear hb2); (try clear hk); (try clear hi); have hcz104_0 : w103.cell? ⟨gb426, 0, none⟩ = some (.string a0_0) := (blk_cell BK426.out 0).trans rfl; have hcz104_1 : w103.cell? ⟨gb426, 1, none⟩ = some (.int .i64 a0_1) := (blk_cell BK426.out 1).trans rfl; have hcz104_2 : w103.cell? ⟨gb426, 2, none⟩ = some (.slice A0_2 l0_2.length c0_2) := (blk_cell BK426.out 2).trans rfl; have hcz104_3 : w103.cell? ⟨gb426, 3, none⟩ = some (.int .i64 a0_3) := (blk_cell BK426.out 3).trans rfl; have hcz104_4 : w103.cell? ⟨gb426, 4, none⟩ = some (.slice A0_4 l0_4.length c0_4) := (blk_cell BK426.out 4).trans rfl; have hcz104_5 : w103.cell? ⟨gb426, 5, none⟩ = some (.int .i64 a0_5) := (blk_cell BK426.out 5).trans rfl; have hfz104_0 := blk_frozen BK426.out 0; have hfz104_1 := blk_frozen BK426.out 1; have hfz104_2 := blk_frozen BK426.out 2; have hfz104_3 := blk_frozen BK426.out 3; have hfz104_4 := blk_frozen BK426.out 4; have hfz104_5 := blk_frozen BK426.out 5) | (go_at_call 23; (with_reducible refine (metric_Same.calls k a0_0 a0_1 _ _ l0_2 a0_3 _ _ l0_4 a0_5 a0_0 a0_1 _ _ l0_2 a0_3 _ _ l0_4 a0_5 false _ ?side1 ?side2 ?side3 ?side4 ?side5 ?side6 ?side7 ?side8 A85.out).mono ?_); (case side1 => repeat (first | exact (Kd.C_below HR0_2.out HB.out) | (with_reducible refine Kd.C_alloc ?_ _) | (with_reducible refine Kd.C_drewN ?_ _) | (with_reducible refine Kd.C_drew ?_))); (case side2 => exact HC0_2.out); (case side3 => repeat (first | exact (Kd.C_below HR0_4.out HB.out) | (with_reducible refine Kd.C_alloc ?_ _) | (with_reducible refine Kd.C_drewN ?_ _) | (with_reducible refine Kd.C_drew ?_))); (case side4 => exact HC0_4.out); (case side5 => repeat (first | exact (Kd.C_below HR0_2.out HB.out) | (with_reducible refine Kd.C_alloc ?_ _) | (with_reducible refine Kd.C_drewN ?_ _) | (with_reducible refine Kd.C_drew ?_))); (case side6 => exact HC0_2.out); (case side7 => repeat (first | exact (Kd.C_below HR0_4.out HB.out) | (with_reducible refine Kd.C_alloc ?_ _) | (with_reducible refine Kd.C_drewN ?_ _) | (with_reducible refine Kd.C_drew ?_))); (case side8 => exact HC0_4.out); rintro e w105 ⟨rfl, hb⟩; have n0_ := Aside0.mk (Kd.R_below (by (with_reducible repeat (first | apply Kd.R_alloc | apply Kd.R_drewN | apply Kd.R_drew)); exact HO433.out) hb); have n1_ := Aside0.mk (Kd.V_below (by (with_reducible repeat (first | apply Kd.V_alloc | apply Kd.V_drewN | apply Kd.V_drew)); exact HO437.out) hb); have n2_ := Aside0.mk (blk_below (g := gb426) (o := .cells #[.string a0_0, .int .i64 a0_1, .slice A0_2 l0_2.length c0_2, .int .i64 a0_3, .slice A0_4 l0_4.length c0_4, .int .i64 a0_5] 25 (0, 0)) (by (with_reducible repeat (first | refine blk_drewN ?_ _ | refine blk_drew ?_ | refine blk_alloc ?_ _)); exact BK426.out) hb); have n3_ := Aside0.mk (blk_below (g := gb440) (o := .cells #[.string t429, .int .i64 t430, .slice Ao98 t431.length co98, .int .i64 t434, .slice Ao99 t435.length co99, .int .i64 t438] 25 (0, 0)) (by (with_reducible repeat (first | refine blk_drewN ?_ _ | refine blk_drew ?_ | refine blk_alloc ?_ _)); exact BK440.out) hb); have n4_ := Aside0.mk (below_step (by repeat (first | (with_reducible first | exact HB.out | apply below_alloc | apply pw_below_drewN | apply below_drew1 | refine below_set ?_ GE426.out | refine below_set ?_ GE440.out) | exact HB.out)) hb); clear HO433; clear HO437; clear BK426; clear BK440; clear HB; have HO433 := n0_; have HO437 := n1_; have BK426 := n2_; have BK440 := n3_; have HB := n4_; clear n0_ n1_ n2_ n3_ n4_; (try clear hb); (try clear hb2); (try clear hk); (try clear hi); have hcz106_0 : w105.cell? ⟨gb440, 0, none⟩ = some (.string t429) := (blk_cell BK440.out 0).trans rfl; have hcz106_1 : w105.cell? ⟨gb440, 1, none⟩ = some (.int .i64 t430) := (blk_cell BK440.out 1).trans rfl; have hcz106_2 : w105.cell? ⟨gb440, 2, none⟩ = some (.slice Ao98 t431.length co98) := (blk_cell BK440.out 2).trans rfl; have hcz106_3 : w105.cell? ⟨gb440, 3, none⟩ = some (.int .i64 t434) := (blk_cell BK440.out 3).trans rfl; have hcz106_4 : w105.cell? ⟨gb440, 4, none⟩ = some (.slice Ao99 t435.length co99) := (blk_cell BK440.out 4).trans rfl; have hcz106_5 : w105.cell? ⟨gb440, 5, none⟩ = some (.int .i64 t438) := (blk_cell BK440.out 5).trans rfl; have hfz106_0 := blk_frozen BK440.out 0; have hfz106_1 := blk_frozen BK440.out 1; have hfz106_2 := blk_frozen BK440.out 2; have hfz106_3 := blk_frozen BK440.out 3; have hfz106_4 := blk_frozen BK440.out 4; have hfz106_5 := blk_frozen BK440.out 5) | (go_at_call 22; (refine (metric_Equal.calls k t429 t430 _ _ t431 t434 _ _ t435 t438 (⟨#[]⟩ : ByteArray) 0 none 0 ([] : List (S40)) 0 none 0 ([] : List (S37)) 0 true _ ?side1 ?side2 ?side3 ?side4 ?side5 ?side6 ?side7 ?side8 A87.out).mono ?_); (case side1 => repeat (first | exact (Kd.R_reads' HO433.out).2.2 | (with_reducible refine Kd.C_alloc ?_ _) | (with_reducible refine Kd.C_drewN ?_ _) | (with_reducible refine Kd.C_drew ?_))); (case side2 => exact (Kd.R_reads' HO433.out).2.1); (case side3 => repeat (first | exact (Kd.V_reads' HO437.out).2.2 | (with_reducible refine Kd.C_alloc ?_ _) | (with_reducible refine Kd.C_drewN ?_ _) | (with_reducible refine Kd.C_drew ?_))); (case side4 => exact (Kd.V_reads' HO437.out).2.1); (case side5 => exact Kd.C_nil _ _); (case side6 => exact Nat.le_refl _); (case side7 => exact Kd.C_nil _ _); (case side8 => exact Nat.le_refl _); rintro e w107 ⟨rfl, hb⟩; have n0_ := Aside0.mk (Kd.R_below (by (with_reducible repeat (first | apply Kd.R_alloc | apply Kd.R_drewN | apply Kd.R_drew)); exact HO433.out) hb); have n1_ := Aside0.mk (Kd.V_below (by (with_reducible repeat (first | apply Kd.V_alloc | apply Kd.V_drewN | apply Kd.V_drew)); exact HO437.out) hb); have n2_ := Aside0.mk (blk_below (g := gb426) (o := .cells #[.string a0_0, .int .i64 a0_1, .slice A0_2 l0_2.length c0_2, .int .i64 a0_3, .slice A0_4 l0_4.length c0_4, .int .i64 a0_5] 25 (0, 0)) (by (with_reducible repeat (first | refine blk_drewN ?_ _ | refine blk_drew ?_ | refine blk_alloc ?_ _)); exact BK426.out) hb); have n3_ := Aside0.mk (blk_below (g := gb440) (o := .cells #[.string t429, .int .i64 t430, .slice Ao98 t431.length co98, .int .i64 t434, .slice Ao99 t435.length co99, .int .i64 t438] 25 (0, 0)) (by (with_reducible repeat (first | refine blk_drewN ?_ _ | refine blk_drew ?_ | refine blk_alloc ?_ _)); exact BK440.out) hb); have n4_ := Aside0.mk (below_step (by repeat (first | (with_reducible first | exact HB.out | apply below_alloc | apply pw_below_drewN | apply below_drew1 | refine below_set ?_ GE426.out | refine below_set ?_ GE440.out) | exact HB.out)) hb); clear HO433; clear HO437; clear BK426; clear BK440; clear HB; have HO433 := n0_; have HO437 := n1_; have BK426 := n2_; have BK440 := n3_; have HB := n4_; clear n0_ n1_ n2_ n3_ n4_; (try clear hb); (try clear hb2); (try clear hk); (try clear hi)) | (go_at_call 15; (with_reducible refine (forebaylaw07_awake.calls k  t445 _ A89.out).mono ?_); rintro e w108 ⟨rfl, hb⟩; have n0_ := Aside0.mk (Kd.R_below (by (with_reducible repeat (first | apply Kd.R_alloc | apply Kd.R_drewN | apply Kd.R_drew)); exact HO433.out) hb); have n1_ := Aside0.mk (Kd.V_below (by (with_reducible repeat (first | apply Kd.V_alloc | apply Kd.V_drewN | apply Kd.V_drew)); exact HO437.out) hb); have n2_ := Aside0.mk (blk_below (g := gb426) (o := .cells #[.string a0_0, .int .i64 a0_1, .slice A0_2 l0_2.length c0_2, .int .i64 a0_3, .slice A0_4 l0_4.length c0_4, .int .i64 a0_5] 25 (0, 0)) (by (with_reducible repeat (first | refine blk_drewN ?_ _ | refine blk_drew ?_ | refine blk_alloc ?_ _)); exact BK426.out) hb); have n3_ := Aside0.mk (blk_below (g := gb440) (o := .cells #[.string t429, .int .i64 t430, .slice Ao98 t431.length co98, .int .i64 t434, .slice Ao99 t435.length co99, .int .i64 t438] 25 (0, 0)) (by (with_reducible repeat (first | refine blk_drewN ?_ _ | refine blk_drew ?_ | refine blk_alloc ?_ _)); exact BK440.out) hb); have n4_ := Aside0.mk (below_step (by repeat (first | (with_reducible first | exact HB.out | apply below_alloc | apply pw_below_drewN | apply below_drew1 | refine below_set ?_ GE426.out | refine below_set ?_ GE440.out) | exact HB.out)) hb); clear HO433; clear HO437; clear BK426; clear BK440; clear HB; have HO433 := n0_; have HO437 := n1_; have BK426 := n2_; have BK440 := n3_; have HB := n4_; clear n0_ n1_ n2_ n3_ n4_; (try clear hb); (try clear hb2); (try clear hk); (try clear hi)))
       go_ret
       exact ⟨by first | rfl | (simp [errW_none, errW_some] <;> rfl) | (simp [*, errW_none, errW_some] <;> rfl), by repeat (first | (with_reducible first | exact HB.out | apply below_alloc | apply pw_below_drewN | apply below_drew1 | refine below_set ?_ GE426.out | refine below_set ?_ GE440.out) | exact HB.out)⟩
      ·replace c88 := Bool.eq_false_iff.mpr c88
       subst c88
       have H1 : (none) = some r := by rw [if_neg (show ¬ (false = true) by decide)] at H; exact H
       clear H
       have H := H1
       clear H1
       exact absurd H (by simp)
 ·replace c3 := Bool.eq_false_iff.mpr c3
  subst c3
  have H1 : ((forebaylaw07_awake.f k).bind fun t428 => (some t428)) = some r := by rw [if_neg (show ¬ (false = true) by decide)] at H; exact H
  clear H
  have H := H1
  clear H1
  replace H := Option.bind_eq_some_iff.mp H
  obtain ⟨t428, A1090, H⟩ := H
  replace H : (some t428) = some r := H
  have A109 := Aside0.mk A1090
  clear A1090
  obtain rfl := Option.some.inj H
  go_enter Try.func8, Try.ntmps8
  go_wp2_with (first | ((with_reducible refine gate_dst (N := 1) rfl ?_); refine box_event ?hg (N := 1) ?hd (cs := #[.string a0_0, .int .i64 a0_1, .slice A0_2 l0_2.length c0_2, .int .i64 a0_3, .slice A0_4 l0_4.length c0_4, .int .i64 a0_5]) (t := 25) ?hr ?_; (case hd => rfl); (case hg => rfl); (case hr => first | (go_simp; done) | (go_simp; rfl)); intro gb426 hg w110 hbox hb; have n0_ := Aside0.mk (below_step (by repeat (first | (with_reducible first | exact HB.out | apply below_alloc | apply pw_below_drewN | apply below_drew1) | exact HB.out)) hb); have n1_ := Aside0.mk (hbox); have n2_ := Aside0.mk ((by rw [hg]; exact (below_size (by repeat (first | (with_reducible first | exact HB.out | apply below_alloc | apply pw_below_drewN | apply below_drew1) | exact HB.out))) : w.heap.size ≤ gb426)); have n3_ := Aside0.mk ((by rw [hg]; exact (below_size (by repeat (first | (with_reducible first | exact HB.out | apply below_alloc | apply pw_below_drewN | apply below_drew1) | exact HB.out))) : w.heap.size ≤ gb426)); clear HB; have HB := n0_; have BK426 := n1_; have GW426 := n2_; have GE426 := n3_; clear n0_ n1_ n2_ n3_; clear hb hbox hg; have hcz111_0 : w110.cell? ⟨gb426, 0, none⟩ = some (.string a0_0) := (blk_cell BK426.out 0).trans rfl; have hcz111_1 : w110.cell? ⟨gb426, 1, none⟩ = some (.int .i64 a0_1) := (blk_cell BK426.out 1).trans rfl; have hcz111_2 : w110.cell? ⟨gb426, 2, none⟩ = some (.slice A0_2 l0_2.length c0_2) := (blk_cell BK426.out 2).trans rfl; have hcz111_3 : w110.cell? ⟨gb426, 3, none⟩ = some (.int .i64 a0_3) := (blk_cell BK426.out 3).trans rfl; have hcz111_4 : w110.cell? ⟨gb426, 4, none⟩ = some (.slice A0_4 l0_4.length c0_4) := (blk_cell BK426.out 4).trans rfl; have hcz111_5 : w110.cell? ⟨gb426, 5, none⟩ = some (.int .i64 a0_5) := (blk_cell BK426.out 5).trans rfl; have hfz111_0 := blk_frozen BK426.out 0; have hfz111_1 := blk_frozen BK426.out 1; have hfz111_2 := blk_frozen BK426.out 2; have hfz111_3 := blk_frozen BK426.out 3; have hfz111_4 := blk_frozen BK426.out 4; have hfz111_5 := blk_frozen BK426.out 5) | ((with_reducible refine gate_callee (f := 14) rfl ?_); refine goesL_ (some 8) rfl rfl Try.func14 (by kernel_rfl) rfl #[.agg #[.string a0_0, .int .i64 a0_1, .slice A0_2 l0_2.length c0_2, .int .i64 a0_3, .slice A0_4 l0_4.length c0_4, .int .i64 a0_5]] rfl (by (try simp only [List.map_toArray, List.map_cons, List.map_nil]); first | done | rfl | (simp only [List.length_drop, List.length_take]; rfl)) ?_; (with_reducible refine (forebaylaw07_Few.calls k a0_0 a0_1 _ _ l0_2 a0_3 _ _ l0_4 a0_5 false _ ?side1 ?side2 ?side3 ?side4 A2.out).mono ?_); (case side1 => repeat (first | exact (Kd.C_below HR0_2.out HB.out) | (with_reducible refine Kd.C_alloc ?_ _) | (with_reducible refine Kd.C_drewN ?_ _) | (with_reducible refine Kd.C_drew ?_))); (case side2 => exact HC0_2.out); (case side3 => repeat (first | exact (Kd.C_below HR0_4.out HB.out) | (with_reducible refine Kd.C_alloc ?_ _) | (with_reducible refine Kd.C_drewN ?_ _) | (with_reducible refine Kd.C_drew ?_))); (case side4 => exact HC0_4.out); rintro e w112 ⟨rfl, hb⟩; refine ⟨_, rfl, ?_⟩; have n0_ := Aside0.mk (blk_below (g := gb426) (o := .cells #[.string a0_0, .int .i64 a0_1, .slice A0_2 l0_2.length c0_2, .int .i64 a0_3, .slice A0_4 l0_4.length c0_4, .int .i64 a0_5] 25 (0, 0)) (by (with_reducible repeat (first | refine blk_drewN ?_ _ | refine blk_drew ?_ | refine blk_alloc ?_ _)); exact BK426.out) hb); have n1_ := Aside0.mk (below_step (by repeat (first | (with_reducible first | exact HB.out | apply below_alloc | apply pw_below_drewN | apply below_drew1 | refine below_set ?_ GE426.out) | exact HB.out)) hb); clear BK426; clear HB; have BK426 := n0_; have HB := n1_; clear n0_ n1_; (try clear hb); (try clear hb2); (try clear hk); (try clear hi)) | ((with_reducible refine gate_callee (f := 15) rfl ?_); refine goesL_ (some 10) rfl rfl Try.func15 (by kernel_rfl) rfl #[] rfl (by (try simp only [List.map_toArray, List.map_cons, List.map_nil]); first | done | rfl | (simp only [List.length_drop, List.length_take]; rfl)) ?_; (with_reducible refine (forebaylaw07_awake.calls k  t428 _ A109.out).mono ?_); rintro e w113 ⟨rfl, hb⟩; refine ⟨_, rfl, ?_⟩; have n0_ := Aside0.mk (blk_below (g := gb426) (o := .cells #[.string a0_0, .int .i64 a0_1, .slice A0_2 l0_2.length c0_2, .int .i64 a0_3, .slice A0_4 l0_4.length c0_4, .int .i64 a0_5] 25 (0, 0)) (by (with_reducible repeat (first | refine blk_drewN ?_ _ | refine blk_drew ?_ | refine blk_alloc ?_ _)); exact BK426.out) hb); have n1_ := Aside0.mk (below_step (by repeat (first | (with_reducible first | exact HB.out | apply below_alloc | apply pw_below_drewN | apply below_drew1 | refine below_set ?_ GE426.out) | exact HB.out)) hb); clear BK426; clear HB; have BK426 := n0_; have HB := n1_; clear n0_ n1_; (try clear hb); (try clear hb2); (try clear hk); (try clear hi)))
  go_ret
  exact ⟨by first | rfl | (simp [errW_none, errW_some] <;> rfl) | (simp [*, errW_none, errW_some] <;> rfl), by repeat (first | (with_reducible first | exact HB.out | apply below_alloc | apply pw_below_drewN | apply below_drew1 | refine below_set ?_ GE426.out) | exact HB.out)⟩
end Go.Proofs.Yteamldgngknmfaa.PE
