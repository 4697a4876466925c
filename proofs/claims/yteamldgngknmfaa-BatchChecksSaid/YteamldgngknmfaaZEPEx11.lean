-- Printed by the kit's print.py over contracts of this session's own.
import Derived.Test.YteamldgngknmfaaZEMNorm
import Derived.Test.YteamldgngknmfaaZEPEx0
import Derived.Test.YteamldgngknmfaaZEPEx1
import Derived.Test.YteamldgngknmfaaZEPEx2
import Derived.Test.YteamldgngknmfaaZEPEx4
import Derived.Test.YteamldgngknmfaaZEPEx8
import Derived.Test.YteamldgngknmfaaZEPEx10
namespace Go.Proofs.Yteamldgngknmfaa.PE
open Go.RowKit Go.Proofs.YteamldgngknmfaaW.PrintWords Go.Proofs.YteamldgngknmfaaW.PrintLast Go.Proofs.YteamldgngknmfaaW.PrintMore
attribute [local go_sem] max2_int min2_int max_two min_two max_three min_three max_four min_four   -- for this text's walks alone
set_option linter.unusedVariables false
set_option linter.unusedSimpArgs false
attribute [local go_sem high] eqA37 eqA40
/-! ### forebaylaw07_MetricNormals: function 4 -/
def forebaylaw07_MetricNormals.j0 : Nat → Int → Bool → ByteArray → Int → List (S40) → Int → List (S37) → Int → ByteArray → Int → List (S40) → Int → List (S37) → Int → Option (Bool)
  | 0, _, _, _, _, _, _, _, _, _, _, _, _, _, _ => none
  | k + 1, x6, x30, x240000, x240001, x240002, x240003, x240004, x240005, x266000, x266001, x266002, x266003, x266004, x266005 => if x30 = true then (none) else (if x6 = 0 then ((forebayref07_Check.f k x240000 x240001 x240002 x240003 x240004 x240005).bind fun t267 => (if t267 = 0 then ((forebayref07_Equal.f k x240000 x240001 x240002 x240003 x240004 x240005 x266000 x266001 x266002 x266003 x266004 x266005).bind fun t268 => ((metric_Is.f k x240000 x240001 x240002 x240003 x240004 x240005).bind fun t269 => (if (t269 == t268) = true then ((forebaylaw07_awake.f k).bind fun t270 => (some t270)) else (none)))) else ((metric_Is.f k x240000 x240001 x240002 x240003 x240004 x240005).bind fun t271 => (if (t271 == false) = true then ((forebaylaw07_awake.f k).bind fun t272 => (some t272)) else (none))))) else ((metric_Is.f k x240000 x240001 x240002 x240003 x240004 x240005).bind fun t273 => (if (t273 == false) = true then ((forebaylaw07_awake.f k).bind fun t274 => (some t274)) else (none))))
/-! ### api_Dec_81: function 81 -/
def api_Dec_81.l0 : Nat → List (S40) → List (S40) → Int → Int → Option (Bool)
  | 0, _, _, _, _ => none
  | k + 1, x0, x1, x12, x13 => if x13 < x12 then (if 0 ≤ x13 then (if x13 < (x0.length : Int) then (if x13 < (x1.length : Int) then (if (!(((rd_T40 x0 x13).f0) == ((rd_T40 x1 x13).f0)) || (!(((rd_T40 x0 x13).f1) == ((rd_T40 x1 x13).f1)) || (!(((rd_T40 x0 x13).f2) == ((rd_T40 x1 x13).f2))))) = true then (some false) else (api_Dec_81.l0 k x0 x1 x12 (wrap64 (x13 + 1)))) else (none)) else (none)) else (none)) else (some true)
/-! ### api_Dec_54: function 54 -/
/-! ### api_Tag_82: function 82 -/
def api_Tag_82.l0 : Nat → List (S37) → List (S37) → Int → Int → Option (Bool)
  | 0, _, _, _, _ => none
  | k + 1, x0, x1, x12, x13 => if x13 < x12 then (if 0 ≤ x13 then (if x13 < (x0.length : Int) then (if x13 < (x1.length : Int) then (if (!((((rd_T37 x0 x13).f0).toList) == (((rd_T37 x1 x13).f0).toList)) || (!((((rd_T37 x0 x13).f1).toList) == (((rd_T37 x1 x13).f1).toList)))) = true then (some false) else (api_Tag_82.l0 k x0 x1 x12 (wrap64 (x13 + 1)))) else (none)) else (none)) else (none)) else (some true)
/-! ### api_Tag_55: function 55 -/
/-! ### metric_Equal: function 22 -/
/-! ### metric_Same: function 23 -/
end Go.Proofs.Yteamldgngknmfaa.PE
