-- Printed by the kit's print.py over contracts of this session's own.
import Derived.Test.YtclbmdblalgdjaaZNTimes
import Derived.Test.YtclbmdblalgdjaaZNPDx0
namespace Go.Proofs.Ytclbmdblalgdjaa.PD
open Go.RowKit Go.Proofs.YtclbmdblalgdjaaW.PrintWords Go.Proofs.YtclbmdblalgdjaaW.PrintLast Go.Proofs.YtclbmdblalgdjaaW.PrintMore
attribute [local go_sem] max2_int min2_int max_two min_two max_three min_three max_four min_four   -- for this text's walks alone
set_option linter.unusedVariables false
set_option linter.unusedSimpArgs false
/-! ### dec_Normal: function 90 -/
mutual
def dec_Normal.j1 : Nat → Bool → Int → Int → Option (Bool × Int × Int × Int)
  | 0, _, _, _ => none
  | k + 1, x102000, x102001, x102002 => dec_Normal.l1 k x102000 x102001 x102002
def dec_Normal.l1 : Nat → Bool → Int → Int → Option (Bool × Int × Int × Int)
  | 0, _, _, _ => none
  | k + 1, x102000, x102001, x102002 => if x102002 > 18 then ((dec_times.f x102001 0).bind fun bt103 => (if bt103.2 = true then (dec_Normal.l1 k x102000 bt103.1 (wrap64 (x102002 - 1))) else (some (false, 0, 0, 10)))) else (if x102002 < (-18) then (some (false, 0, 0, 10)) else (some (x102000, x102001, x102002, 0)))
def dec_Normal.l0 : Nat → Bool → Int → Int → Option (Bool × Int × Int × Int)
  | 0, _, _, _ => none
  | k + 1, x102000, x102001, x102002 => if (Int.tmod x102001 10) = 0 then (if x102002 < 18 then (dec_Normal.l0 k x102000 (IntKind.u64.wrap (Int.tdiv x102001 10)) (wrap64 (x102002 + 1))) else (dec_Normal.j1 k x102000 x102001 x102002)) else (dec_Normal.j1 k x102000 x102001 x102002)
end
/-! ### cmp_Or_int: function 155 -/
def cmp_Or_int.l0 : Nat → Int → List Int → Int → Int → Option (Int)
  | 0, _, _, _, _ => none
  | k + 1, x3, x6, x7, x8 => if x8 < x7 then (if 0 ≤ x8 then (if x8 < (x6.length : Int) then (if (rd x6 x8) = x3 then (cmp_Or_int.l0 k x3 x6 x7 (wrap64 (x8 + 1))) else (some (rd x6 x8))) else (none)) else (none)) else (some x3)
/-! ### cmp_isNaN_string: function 163 -/
end Go.Proofs.Ytclbmdblalgdjaa.PD
