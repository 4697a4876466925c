-- Out of a text that print.sh wrote for this seat: what this claim does not use is left out.
import Derived.Test.YtbdennijmfgdpaaVPEx0
import Derived.Test.YtbdennijmfgdpaaVPEx1
import Derived.Test.YtbdennijmfgdpaaVPEx2
namespace Go.Proofs.Ytbdennijmfgdpaa.PE
open Go.RowKit Go.Proofs.YtbdennijmfgdpaaW.PrintWords Go.Proofs.YtbdennijmfgdpaaW.PrintLast Go.Proofs.YtbdennijmfgdpaaW.PrintMore
attribute [local go_sem] max2_int min2_int max_two min_two max_three min_three max_four min_four   -- for this text's walks alone
set_option linter.unusedVariables false
set_option linter.unusedSimpArgs false
attribute [local go_sem high] eqA46 eqA48
/-! ### forebayref07_Equal: function 49 -/
mutual
def forebayref07_Equal.j0 : Nat → Bool → ByteArray → Int → List (S46) → Int → List (S48) → Int → ByteArray → Int → List (S46) → Int → List (S48) → Int → Option (Bool)
  | 0, _, _, _, _, _, _, _, _, _, _, _, _, _ => none
  | k + 1, x50, x181000, x181001, x181002, x181003, x181004, x181005, x182000, x182001, x182002, x182003, x182004, x182005 => if x50 = true then (some false) else (forebayref07_Equal.l0 k 0 x181000 x181001 x181002 x181003 x181004 x181005 x182000 x182001 x182002 x182003 x182004 x182005)
def forebayref07_Equal.l0 : Nat → Int → ByteArray → Int → List (S46) → Int → List (S48) → Int → ByteArray → Int → List (S46) → Int → List (S48) → Int → Option (Bool)
  | 0, _, _, _, _, _, _, _, _, _, _, _, _, _ => none
  | k + 1, x5, x181000, x181001, x181002, x181003, x181004, x181005, x182000, x182001, x182002, x182003, x182004, x182005 => if x5 < (x181002.length : Int) then (if 0 ≤ x5 then (if x5 < (x182002.length : Int) then (if (!(((rd_T46 x181002 x5).f0) == ((rd_T46 x182002 x5).f0)) || (!(((rd_T46 x181002 x5).f1) == ((rd_T46 x182002 x5).f1)) || (!(((rd_T46 x181002 x5).f2) == ((rd_T46 x182002 x5).f2))))) = true then (some false) else (forebayref07_Equal.l0 k (wrap64 (x5 + 1)) x181000 x181001 x181002 x181003 x181004 x181005 x182000 x182001 x182002 x182003 x182004 x182005)) else (none)) else (none)) else (forebayref07_Equal.l1 k 0 x181000 x181001 x181002 x181003 x181004 x181005 x182000 x182001 x182002 x182003 x182004 x182005)
def forebayref07_Equal.l1 : Nat → Int → ByteArray → Int → List (S46) → Int → List (S48) → Int → ByteArray → Int → List (S46) → Int → List (S48) → Int → Option (Bool)
  | 0, _, _, _, _, _, _, _, _, _, _, _, _, _ => none
  | k + 1, x6, x181000, x181001, x181002, x181003, x181004, x181005, x182000, x182001, x182002, x182003, x182004, x182005 => if x6 < (x181004.length : Int) then (if 0 ≤ x6 then (if x6 < (x182004.length : Int) then (if (!((((rd_T48 x181004 x6).f0).toList) == (((rd_T48 x182004 x6).f0).toList)) || (!((((rd_T48 x181004 x6).f1).toList) == (((rd_T48 x182004 x6).f1).toList)))) = true then (some false) else (forebayref07_Equal.l1 k (wrap64 (x6 + 1)) x181000 x181001 x181002 x181003 x181004 x181005 x182000 x182001 x182002 x182003 x182004 x182005)) else (none)) else (none)) else (some true)
end
def forebayref07_Equal.f (k : Nat) (a0_0 : ByteArray) (a0_1 : Int) (l0_2 : List (S46)) (a0_3 : Int) (l0_4 : List (S48)) (a0_5 : Int) (a1_0 : ByteArray) (a1_1 : Int) (l1_2 : List (S46)) (a1_3 : Int) (l1_4 : List (S48)) (a1_5 : Int) : Option (Bool) := if a0_0.toList = a1_0.toList then (if a0_1 = a1_1 then (if a0_3 = a1_3 then (if a0_5 = a1_5 then (if (l0_2.length : Int) = (l1_2.length : Int) then (forebayref07_Equal.j0 k ((l0_4.length : Int) != (l1_4.length : Int)) a0_0 a0_1 l0_2 a0_3 l0_4 a0_5 a1_0 a1_1 l1_2 a1_3 l1_4 a1_5) else (forebayref07_Equal.j0 k true a0_0 a0_1 l0_2 a0_3 l0_4 a0_5 a1_0 a1_1 l1_2 a1_3 l1_4 a1_5)) else (forebayref07_Equal.j0 k true a0_0 a0_1 l0_2 a0_3 l0_4 a0_5 a1_0 a1_1 l1_2 a1_3 l1_4 a1_5)) else (forebayref07_Equal.j0 k true a0_0 a0_1 l0_2 a0_3 l0_4 a0_5 a1_0 a1_1 l1_2 a1_3 l1_4 a1_5)) else (forebayref07_Equal.j0 k true a0_0 a0_1 l0_2 a0_3 l0_4 a0_5 a1_0 a1_1 l1_2 a1_3 l1_4 a1_5)) else (forebayref07_Equal.j0 k true a0_0 a0_1 l0_2 a0_3 l0_4 a0_5 a1_0 a1_1 l1_2 a1_3 l1_4 a1_5)
/-! ### forebayref08_Equal: function 16 -/
def forebayref08_Equal.l0 : Nat → List (S25) → List (S25) → Int → Option (Bool)
  | 0, _, _, _ => none
  | k + 1, x0, x1, x5 => if x5 < (x0.length : Int) then (if 0 ≤ x5 then (if x5 < (x1.length : Int) then ((forebayref07_Equal.f k ((rd_T25 x0 x5).f0) ((rd_T25 x0 x5).f1) ((rd_T25 x0 x5).f2) ((rd_T25 x0 x5).f3) ((rd_T25 x0 x5).f4) ((rd_T25 x0 x5).f5) ((rd_T25 x1 x5).f0) ((rd_T25 x1 x5).f1) ((rd_T25 x1 x5).f2) ((rd_T25 x1 x5).f3) ((rd_T25 x1 x5).f4) ((rd_T25 x1 x5).f5)).bind fun t188 => (if t188 = true then (forebayref08_Equal.l0 k x0 x1 (wrap64 (x5 + 1))) else (some false))) else (none)) else (none)) else (some true)
end Go.Proofs.Ytbdennijmfgdpaa.PE
