-- Out of a text that print.sh wrote for this seat: what this claim does not use is left out.
import Derived.Test.YteamldgngknmfaaZJPEx0
import Derived.Test.YteamldgngknmfaaZJPEx2
import Derived.Test.YteamldgngknmfaaZJPEx5
namespace Go.Proofs.Yteamldgngknmfaa.PE
open Go.RowKit Go.Proofs.YteamldgngknmfaaW.PrintWords Go.Proofs.YteamldgngknmfaaW.PrintLast Go.Proofs.YteamldgngknmfaaW.PrintMore
attribute [local go_sem] max2_int min2_int max_two min_two max_three min_three max_four min_four   -- for this text's walks alone
set_option linter.unusedVariables false
set_option linter.unusedSimpArgs false
attribute [local go_sem high] eqA40
/-! ### forebayref03_Check: function 47 -/
def forebayref03_Check.j0 : Nat → Bool → Bool → Int → Int → Option (Int)
  | 0, _, _, _, _ => none
  | k + 1, x17, x143000, x143001, x143002 => if x17 = true then (some 10) else ((forebayref03_Digits.f k x143001).bind fun t143 => ((forebayref03_Make.f k x143000 t143 x143002).bind fun bt144 => (if bt144.2.2.2 = true then (if (!(bt144.1 == x143000) || (!(bt144.2.1 == x143001) || (!(bt144.2.2.1 == x143002)))) = true then (some 21) else (some 0)) else (some 21))))
def forebayref03_Check.f (k : Nat) (a0_0 : Bool) (a0_1 : Int) (a0_2 : Int) : Option (Int) := if a0_1 = 0 then (forebayref03_Check.j0 k false a0_0 a0_1 a0_2) else (if a0_2 < (-18) then (forebayref03_Check.j0 k true a0_0 a0_1 a0_2) else (forebayref03_Check.j0 k (decide (a0_2 > 18)) a0_0 a0_1 a0_2))
end Go.Proofs.Yteamldgngknmfaa.PE
