-- Printed by the kit's print.py over contracts of this session's own.
import Derived.Test.YteamldgngknmfaaZFLawMetC
import Derived.Test.YteamldgngknmfaaZFPEx0
import Derived.Test.YteamldgngknmfaaZFPEx4
import Derived.Test.YteamldgngknmfaaZFPEx10
import Derived.Test.YteamldgngknmfaaZFPEx11
namespace Go.Proofs.Yteamldgngknmfaa.PE
open Go.RowKit Go.Proofs.YteamldgngknmfaaW.PrintWords Go.Proofs.YteamldgngknmfaaW.PrintLast Go.Proofs.YteamldgngknmfaaW.PrintMore
attribute [local go_sem] max2_int min2_int max_two min_two max_three min_three max_four min_four   -- for this text's walks alone
set_option linter.unusedVariables false
set_option linter.unusedSimpArgs false
/-! ### forebaylaw07_MetricEquals: function 5 -/
mutual
def forebaylaw07_MetricEquals.j0 : Nat → Bool → ByteArray → Int → List (S40) → Int → List (S37) → Int → ByteArray → Int → List (S40) → Int → List (S37) → Int → Option (Bool)
 | 0, _, _, _, _, _, _, _, _, _, _, _, _, _ => none
 | k + 1, x17, x313000, x313001, x313002, x313003, x313004, x313005, x314000, x314001, x314002, x314003, x314004, x314005 => if x17 = true then ((forebaylaw07_awake.f k).bind fun t316 => (some t316)) else ((forebayref07_Normal.f k x313000 x313001 x313002 x313003 x313004 x313005).bind fun bt317 => ((forebayref07_Normal.f k x314000 x314001 x314002 x314003 x314004 x314005).bind fun bt329 => (if bt317.2.2.2.2.2.2 = 0 then (if bt329.2.2.2.2.2.2 = 0 then ((forebayref07_Equal.f k bt317.1 bt317.2.1 bt317.2.2.1 bt317.2.2.2.1 bt317.2.2.2.2.1 bt317.2.2.2.2.2.1 bt329.1 bt329.2.1 bt329.2.2.1 bt329.2.2.2.1 bt329.2.2.2.2.1 bt329.2.2.2.2.2.1).bind fun t341 => (forebaylaw07_MetricEquals.j1 k t341 x313000 x313001 x313002 x313003 x313004 x313005 x314000 x314001 x314002 x314003 x314004 x314005)) else (forebaylaw07_MetricEquals.j1 k false x313000 x313001 x313002 x313003 x313004 x313005 x314000 x314001 x314002 x314003 x314004 x314005)) else (forebaylaw07_MetricEquals.j1 k false x313000 x313001 x313002 x313003 x313004 x313005 x314000 x314001 x314002 x314003 x314004 x314005))))
def forebaylaw07_MetricEquals.j1 : Nat → Bool → ByteArray → Int → List (S40) → Int → List (S37) → Int → ByteArray → Int → List (S40) → Int → List (S37) → Int → Option (Bool)
 | 0, _, _, _, _, _, _, _, _, _, _, _, _, _ => none
 | k + 1, x9, x313000, x313001, x313002, x313003, x313004, x313005, x314000, x314001, x314002, x314003, x314004, x314005 => (metric_Equal.f k x313000 x313001 x313002 x313003 x313004 x313005 x314000 x314001 x314002 x314003 x314004 x314005).bind fun t342 => ((forebayref07_Equal.f k x313000 x313001 x313002 x313003 x313004 x313005 x314000 x314001 x314002 x314003 x314004 x314005).bind fun t343 => (if (t342 == t343) = true then ((metric_Same.f k x313000 x313001 x313002 x313003 x313004 x313005 x314000 x314001 x314002 x314003 x314004 x314005).bind fun t344 => (if (t344 == x9) = true then ((metric_Same.f k x314000 x314001 x314002 x314003 x314004 x314005 x313000 x313001 x313002 x313003 x313004 x313005).bind fun t345 => (if (t345 == x9) = true then ((forebaylaw07_awake.f k).bind fun t346 => (some t346)) else (none))) else (none))) else (none)))
end
/-! ### metric_Clone: function 24 -/
def metric_Clone.f (a0_0 : ByteArray) (a0_1 : Int) (l0_2 : List (S40)) (a0_3 : Int) (l0_4 : List (S37)) (a0_5 : Int) : Option (ByteArray × Int × (List (S40)) × Int × (List (S37)) × Int) := (slices_Clone_d.f l0_2).bind fun t349 => ((slices_Clone_t.f l0_4).bind fun t352 => (some (a0_0, a0_1, t349, a0_3, t352, a0_5)))
/-! ### forebayref07_Copy: function 25 -/
def forebayref07_Copy.f (a0_0 : ByteArray) (a0_1 : Int) (l0_2 : List (S40)) (a0_3 : Int) (l0_4 : List (S37)) (a0_5 : Int) : Option (ByteArray × Int × (List (S40)) × Int × (List (S37)) × Int) := (some (([] : List (S40)) : List (S40))).bind fun y357 => (if y357.length + l0_2.length < 5864062014805 then ((some (([] : List (S37)) : List (S37))).bind fun y363 => (if y363.length + l0_4.length < 4398046511104 then (some (a0_0, a0_1, (y357 ++ l0_2), a0_3, (y363 ++ l0_4), a0_5)) else (none))) else (none))
/-! ### metric_Split: function 26 -/
def metric_Split.l0 : Nat → List (S25) → List (S40) → Int → Int → ByteArray → Int → List (S40) → Int → List (S37) → Int → Option ((List (S25)) × Int)
 | 0, _, _, _, _, _, _, _, _, _, _ => none
 | k + 1, x5, x15, x16, x17, x370000, x370001, x370002, x370003, x370004, x370005 => if x17 < x16 then (if 0 ≤ x17 then (if x17 < (x15.length : Int) then ((metric_Clone.f x370000 x370001 x370002 x370003 x370004 x370005).bind fun bt373 => (if x5.length < 1599289640401 then (metric_Split.l0 k (x5 ++ [(⟨bt373.1, bt373.2.1, (([(⟨(rd_T40 x15 x17).f0, (rd_T40 x15 x17).f1, (rd_T40 x15 x17).f2⟩ : S40)] : List (S40))), bt373.2.2.2.1, bt373.2.2.2.2.1, bt373.2.2.2.2.2⟩ : S25)]) x15 x16 (wrap64 (x17 + 1)) x370000 x370001 x370002 x370003 x370004 x370005) else (none))) else (none)) else (none)) else (some (x5, 0))
-- NOT PRINTED: function 7 (forebaylaw07_MetricSplits)
end Go.Proofs.Yteamldgngknmfaa.PE
