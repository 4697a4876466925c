-- Out of a text that print.sh wrote for this seat: what this claim does not use is left out.
import Derived.Test.YtbdennijmfgdpaaVPEx0
import Derived.Test.YtbdennijmfgdpaaVPEx1
import Derived.Test.YtbdennijmfgdpaaVPEx4
namespace Go.Proofs.Ytbdennijmfgdpaa.PE
open Go.RowKit Go.Proofs.YtbdennijmfgdpaaW.PrintWords Go.Proofs.YtbdennijmfgdpaaW.PrintLast Go.Proofs.YtbdennijmfgdpaaW.PrintMore
attribute [local go_sem] max2_int min2_int max_two min_two max_three min_three max_four min_four   -- for this text's walks alone
set_option linter.unusedVariables false
set_option linter.unusedSimpArgs false
attribute [local go_sem high] eqA46
/-! ### forebayref03_Check: function 83 -/
def forebayref03_Check.j0 : Nat → Bool → Bool → Int → Int → Option (Int)
  | 0, _, _, _, _ => none
  | k + 1, x17, x106000, x106001, x106002 => if x17 = true then (some 10) else ((forebayref03_Digits.f k x106001).bind fun t106 => ((forebayref03_Make.f k x106000 t106 x106002).bind fun bt107 => (if bt107.2.2.2 = true then (if (!(bt107.1 == x106000) || (!(bt107.2.1 == x106001) || (!(bt107.2.2.1 == x106002)))) = true then (some 21) else (some 0)) else (some 21))))
def forebayref03_Check.f (k : Nat) (a0_0 : Bool) (a0_1 : Int) (a0_2 : Int) : Option (Int) := if a0_1 = 0 then (forebayref03_Check.j0 k false a0_0 a0_1 a0_2) else (if a0_2 < (-18) then (forebayref03_Check.j0 k true a0_0 a0_1 a0_2) else (forebayref03_Check.j0 k (decide (a0_2 > 18)) a0_0 a0_1 a0_2))
end Go.Proofs.Ytbdennijmfgdpaa.PE
