-- Printed by the kit's print.py over contracts of this session's own.
import Derived.Test.YtbdennijmfgdpaaZInj
import Derived.Test.YtbdennijmfgdpaaZPEx0
import Derived.Test.YtbdennijmfgdpaaZPEx7
import Derived.Test.YtbdennijmfgdpaaZPEx10
import Derived.Test.YtbdennijmfgdpaaZPEx11
namespace Go.Proofs.Ytbdennijmfgdpaa.PE
open Go.RowKit Go.Proofs.YtbdennijmfgdpaaW.PrintWords Go.Proofs.YtbdennijmfgdpaaW.PrintLast Go.Proofs.YtbdennijmfgdpaaW.PrintMore
attribute [local go_sem] max2_int min2_int max_two min_two max_three min_three max_four min_four   -- for this text's walks alone
set_option linter.unusedVariables false
set_option linter.unusedSimpArgs false
/-! ### forebaylaw09_ExprSays: function 4 -/
def forebaylaw09_ExprSays.l0 : Nat → Int → List Int → Int → Int → ByteArray → Int → List (S46) → Int → List (S48) → Int → Option (Bool)
  | 0, _, _, _, _, _, _, _, _, _, _ => none
  | k + 1, x1, x5, x6, x7, x307000, x307001, x307002, x307003, x307004, x307005 => if x7 ≤ 4 then ((forebayref09_Metric.f k x307000 x307001 x307002 x307003 x307004 x307005 x7).bind fun t315 => (if t315 = 0 then (if x6 ≥ (x5.length : Int) then (none) else (if 0 ≤ x6 then (if x6 < (x5.length : Int) then (if (rd x5 x6) = x7 then (forebaylaw09_ExprSays.l0 k x1 x5 (wrap64 (x6 + 1)) (wrap64 (x7 + 1)) x307000 x307001 x307002 x307003 x307004 x307005) else (none)) else (none)) else (none))) else (forebaylaw09_ExprSays.l0 k x1 x5 x6 (wrap64 (x7 + 1)) x307000 x307001 x307002 x307003 x307004 x307005))) else (if x6 = (x5.length : Int) then ((expr_Metric.f x307000 x307001 x307002 x307003 x307004 x307005 x1).bind fun t312 => ((forebayref09_Metric.f k x307000 x307001 x307002 x307003 x307004 x307005 x1).bind fun t313 => (if t312 = t313 then ((forebaylaw09_awake.f k).bind fun t314 => (some t314)) else (none)))) else (none))
end Go.Proofs.Ytbdennijmfgdpaa.PE
