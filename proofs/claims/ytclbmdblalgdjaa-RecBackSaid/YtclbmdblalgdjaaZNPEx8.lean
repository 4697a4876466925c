-- Out of a text that print.sh wrote for this seat: what this claim does not use is left out.
import Derived.Test.YtclbmdblalgdjaaZNPEx0
import Derived.Test.YtclbmdblalgdjaaZNPEx4
import Derived.Test.YtclbmdblalgdjaaZNPEx5
namespace Go.Proofs.Ytclbmdblalgdjaa.PE
open Go.RowKit Go.Proofs.YtclbmdblalgdjaaW.PrintWords Go.Proofs.YtclbmdblalgdjaaW.PrintLast Go.Proofs.YtclbmdblalgdjaaW.PrintMore
attribute [local go_sem] max2_int min2_int max_two min_two max_three min_three max_four min_four   -- for this text's walks alone
set_option linter.unusedVariables false
set_option linter.unusedSimpArgs false
/-! ### forebayref03_Normal: function 88 -/
def forebayref03_Normal.f (k : Nat) (a0_0 : Bool) (a0_1 : Int) (a0_2 : Int) : Option (Bool × Int × Int × Int) := (forebayref03_Digits.f k a0_1).bind fun t147 => ((forebayref03_Make.f k a0_0 t147 a0_2).bind fun bt148 => (if bt148.2.2.2 = true then (some (bt148.1, bt148.2.1, bt148.2.2.1, 0)) else (some (false, 0, 0, 10))))
/-! ### forebayref06_Ahead: function 143 -/
mutual
def forebayref06_Ahead.l0 : Nat → ByteArray → ByteArray → Int → Option (Bool)
  | 0, _, _, _ => none
  | k + 1, x0, x1, x5 => if x5 < (x0.size : Int) then (forebayref06_Ahead.j1 k x0 x1 x5 (decide (x5 < (x1.size : Int)))) else (forebayref06_Ahead.j1 k x0 x1 x5 false)
def forebayref06_Ahead.j1 : Nat → ByteArray → ByteArray → Int → Bool → Option (Bool)
  | 0, _, _, _, _ => none
  | k + 1, x0, x1, x5, x15 => if x15 = true then (if 0 ≤ x5 then (if x5 < (x0.size : Int) then (if x5 < (x1.size : Int) then (if (bt x0 x5) = (bt x1 x5) then (forebayref06_Ahead.l0 k x0 x1 (wrap64 (x5 + 1))) else (some (decide ((bt x0 x5) < (bt x1 x5))))) else (none)) else (none)) else (none)) else (some (decide ((x0.size : Int) < (x1.size : Int))))
end
def forebayref06_Ahead.f (k : Nat) (a0 : ByteArray) (a1 : ByteArray) : Option (Bool) := forebayref06_Ahead.l0 k a0 a1 0
/-! ### forebayref06_Less: function 123 -/
def forebayref06_Less.f (k : Nat) (a0_0 : ByteArray) (a0_1 : ByteArray) (a1_0 : ByteArray) (a1_1 : ByteArray) : Option (Bool) := (forebayref06_Ahead.f k a0_0 a1_0).bind fun t155 => (if t155 = true then (some true) else (if a0_0.toList = a1_0.toList then ((forebayref06_Ahead.f k a0_1 a1_1).bind fun t156 => (some t156)) else (some false)))
end Go.Proofs.Ytclbmdblalgdjaa.PE
