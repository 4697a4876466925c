-- Printed by the kit's print.py over contracts of this session's own.
import Derived.Test.YteamldgngknmfaaZJInjN
import Derived.Test.YteamldgngknmfaaZJPEx14
import Derived.Test.YteamldgngknmfaaZJPEx0
namespace Go.Proofs.Yteamldgngknmfaa.PE
open Go.RowKit Go.Proofs.YteamldgngknmfaaW.PrintWords Go.Proofs.YteamldgngknmfaaW.PrintLast Go.Proofs.YteamldgngknmfaaW.PrintMore
attribute [local go_sem] max2_int min2_int max_two min_two max_three min_three max_four min_four   -- for this text's walks alone
set_option linter.unusedVariables false
set_option linter.unusedSimpArgs false
/-! ### forebaylaw08_BatchBehind: function 10 -/
mutual
def forebaylaw08_BatchBehind.j0 : Nat → List (S25) → List (S25) → Bool → Option (Bool)
  | 0, _, _, _ => none
  | k + 1, x0, x1, x24 => if x24 = true then ((forebaylaw08_awake.f k).bind fun t128 => (some t128)) else ((some (([] : List (S25)) : List (S25))).bind fun y129 => (if y129.length + x0.length < 1599289640401 then ((some (y129 ++ x0 : List (S25))).bind fun y132 => (if y132.length + x1.length < 1599289640401 then ((some (y132 ++ x1 : List (S25))).bind fun y135 => ((batch_Normal.f x0).bind fun bt138 => ((batch_Normal.f x1).bind fun bt143 => ((batch_Normal.f y135).bind fun bt148 => ((batch_Names.f y135).bind fun t153 => ((batch_Names.f x0).bind fun t156 => (if (t153.length : Int) < (t156.length : Int) then (forebaylaw08_BatchBehind.j1 k x0 bt138.1 bt138.2.1 bt138.2.2 bt143.1 bt143.2.1 bt143.2.2 bt148.1 bt148.2.1 bt148.2.2 true) else (if 0 ≤ (t156.length : Int) then (if (t156.length : Int) ≤ (t153.length : Int) then ((forebaylaw08_texts.f k (t153.take ((t156.length : Int) : Int).toNat) t156).bind fun t164 => (forebaylaw08_BatchBehind.j1 k x0 bt138.1 bt138.2.1 bt138.2.2 bt143.1 bt143.2.1 bt143.2.2 bt148.1 bt148.2.1 bt148.2.2 (!t164))) else (none)) else (none))))))))) else (none))) else (none)))
def forebaylaw08_BatchBehind.j1 : Nat → List (S25) → List (S25) → Int → Int → List (S25) → Int → Int → List (S25) → Int → Int → Bool → Option (Bool)
  | 0, _, _, _, _, _, _, _, _, _, _, _ => none
  | k + 1, x0, x6, x7, x8, x9, x10, x11, x12, x13, x14, x66 => if x66 = true then (none) else (if x8 = 0 then (if x11 = 0 then (if x14 = 0 then (if x13 = 0 then ((some (([] : List (S25)) : List (S25))).bind fun y166 => (if y166.length + x6.length < 1599289640401 then ((some (y166 ++ x6 : List (S25))).bind fun y169 => (if y169.length + x9.length < 1599289640401 then ((batch_Equal.f x12 (y169 ++ x9)).bind fun t175 => (if t175 = true then ((forebaylaw08_awake.f k).bind fun t176 => (some t176)) else (none))) else (none))) else (none))) else (none)) else (none)) else (if x14 = x11 then (if x13 = (wrap64 (x10 + (x0.length : Int))) then (if (x12.length : Int) = 0 then ((forebaylaw08_awake.f k).bind fun t177 => (some t177)) else (none)) else (none)) else (none))) else (if x14 = x8 then (if x13 = x7 then (if (x12.length : Int) = 0 then ((forebaylaw08_awake.f k).bind fun t165 => (some t165)) else (none)) else (none)) else (none)))
end
end Go.Proofs.Yteamldgngknmfaa.PE
