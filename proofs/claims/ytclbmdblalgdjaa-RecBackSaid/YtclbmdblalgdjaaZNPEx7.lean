-- Out of a text that print.sh wrote for this seat: what this claim does not use is left out.
import Derived.Test.YtclbmdblalgdjaaZNPEx0
import Derived.Test.YtclbmdblalgdjaaZNPEx5
import Derived.Test.YtclbmdblalgdjaaZNPEx6
namespace Go.Proofs.Ytclbmdblalgdjaa.PE
open Go.RowKit Go.Proofs.YtclbmdblalgdjaaW.PrintWords Go.Proofs.YtclbmdblalgdjaaW.PrintLast Go.Proofs.YtclbmdblalgdjaaW.PrintMore
attribute [local go_sem] max2_int min2_int max_two min_two max_three min_three max_four min_four   -- for this text's walks alone
set_option linter.unusedVariables false
set_option linter.unusedSimpArgs false
/-! ### forebayref07_Rest: function 87 -/
mutual
def forebayref07_Rest.j0 : Nat → Bool → Bool → ByteArray → Int → List (S48) → Int → List (S81) → Int → Option (Int)
  | 0, _, _, _, _, _, _, _, _ => none
  | k + 1, x1, x17, x138000, x138001, x138002, x138003, x138004, x138005 => if x17 = true then (some 16) else (if x1 = true then (if (x138002.length : Int) < 1 then (forebayref07_Rest.j1 k true x138000 x138001 x138002 x138003 x138004 x138005) else (forebayref07_Rest.j1 k (decide ((x138002.length : Int) > 64)) x138000 x138001 x138002 x138003 x138004 x138005)) else (forebayref07_Rest.j1 k true x138000 x138001 x138002 x138003 x138004 x138005))
def forebayref07_Rest.j1 : Nat → Bool → ByteArray → Int → List (S48) → Int → List (S81) → Int → Option (Int)
  | 0, _, _, _, _, _, _, _ => none
  | k + 1, x31, x138000, x138001, x138002, x138003, x138004, x138005 => if x31 = true then (some 17) else (if x138003 < 1 then (forebayref07_Rest.j2 k true x138000 x138001 x138002 x138003 x138004 x138005) else (if x138003 > 1000000 then (forebayref07_Rest.j2 k true x138000 x138001 x138002 x138003 x138004 x138005) else (if x138001 = 2 then (forebayref07_Rest.j2 k (x138003 != 1000000) x138000 x138001 x138002 x138003 x138004 x138005) else (forebayref07_Rest.j2 k false x138000 x138001 x138002 x138003 x138004 x138005))))
def forebayref07_Rest.j2 : Nat → Bool → ByteArray → Int → List (S48) → Int → List (S81) → Int → Option (Int)
  | 0, _, _, _, _, _, _, _ => none
  | k + 1, x49, x138000, x138001, x138002, x138003, x138004, x138005 => if x49 = true then (some 18) else (if (x138004.length : Int) > 32 then (some 19) else (forebayref07_Rest.l0 k 0 x138000 x138001 x138002 x138003 x138004 x138005))
def forebayref07_Rest.l0 : Nat → Int → ByteArray → Int → List (S48) → Int → List (S81) → Int → Option (Int)
  | 0, _, _, _, _, _, _, _ => none
  | k + 1, x5, x138000, x138001, x138002, x138003, x138004, x138005 => if x5 < (x138004.length : Int) then (if 0 ≤ x5 then ((forebayref06_Check.f ((rd_T81 x138004 x5).f0) ((rd_T81 x138004 x5).f1)).bind fun t140 => (if t140 = 0 then (forebayref07_Rest.l0 k (wrap64 (x5 + 1)) x138000 x138001 x138002 x138003 x138004 x138005) else (some 19))) else (none)) else (if x138005 < 0 then (some 20) else (if x138005 > 1099511627776 then (some 20) else (some 0)))
end
def forebayref07_Rest.f (k : Nat) (a0_0 : ByteArray) (a0_1 : Int) (l0_2 : List (S48)) (a0_3 : Int) (l0_4 : List (S81)) (a0_5 : Int) (a1 : Bool) : Option (Int) := (forebayref07_Name.f k a0_0).bind fun t138 => (if t138 = true then (if a0_1 < 1 then (forebayref07_Rest.j0 k a1 true a0_0 a0_1 l0_2 a0_3 l0_4 a0_5) else (forebayref07_Rest.j0 k a1 (decide (a0_1 > 5)) a0_0 a0_1 l0_2 a0_3 l0_4 a0_5)) else (some 15))
/-! ### forebayref07_Check: function 42 -/
def forebayref07_Check.l0 : Nat → Bool → Int → ByteArray → Int → List (S48) → Int → List (S81) → Int → Option (Int)
  | 0, _, _, _, _, _, _, _, _ => none
  | k + 1, x3, x4, x142000, x142001, x142002, x142003, x142004, x142005 => if x4 < (x142002.length : Int) then (if x3 = true then (if 0 ≤ x4 then ((forebayref03_Check.f k ((rd_T48 x142002 x4).f0) ((rd_T48 x142002 x4).f1) ((rd_T48 x142002 x4).f2)).bind fun t143 => (forebayref07_Check.l0 k (t143 == 0) (wrap64 (x4 + 1)) x142000 x142001 x142002 x142003 x142004 x142005)) else (none)) else (forebayref07_Check.l0 k false (wrap64 (x4 + 1)) x142000 x142001 x142002 x142003 x142004 x142005)) else ((forebayref07_Rest.f k x142000 x142001 x142002 x142003 x142004 x142005 x3).bind fun t144 => (some t144))
def forebayref07_Check.f (k : Nat) (a0_0 : ByteArray) (a0_1 : Int) (l0_2 : List (S48)) (a0_3 : Int) (l0_4 : List (S81)) (a0_5 : Int) : Option (Int) := forebayref07_Check.l0 k true 0 a0_0 a0_1 l0_2 a0_3 l0_4 a0_5
end Go.Proofs.Ytclbmdblalgdjaa.PE
