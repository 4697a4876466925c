-- Printed by the kit's print.py over contracts of this session's own.
import Derived.Test.YteamldgngknmfaaZJLawMetB
import Derived.Test.YteamldgngknmfaaZJPEx0
import Derived.Test.YteamldgngknmfaaZJPEx4
import Derived.Test.YteamldgngknmfaaZJPEx6
import Derived.Test.YteamldgngknmfaaZJPEx7
namespace Go.Proofs.Yteamldgngknmfaa.PE
open Go.RowKit Go.Proofs.YteamldgngknmfaaW.PrintWords Go.Proofs.YteamldgngknmfaaW.PrintLast Go.Proofs.YteamldgngknmfaaW.PrintMore
attribute [local go_sem] max2_int min2_int max_two min_two max_three min_three max_four min_four   -- for this text's walks alone
set_option linter.unusedVariables false
set_option linter.unusedSimpArgs false
/-! ### forebayref07_Rest: function 48 -/
mutual
def forebayref07_Rest.j0 : Nat → Bool → Bool → ByteArray → Int → List (S40) → Int → List (S37) → Int → Option (Int)
  | 0, _, _, _, _, _, _, _, _ => none
  | k + 1, x1, x17, x157000, x157001, x157002, x157003, x157004, x157005 => if x17 = true then (some 16) else (if x1 = true then (if (x157002.length : Int) < 1 then (forebayref07_Rest.j1 k true x157000 x157001 x157002 x157003 x157004 x157005) else (forebayref07_Rest.j1 k (decide ((x157002.length : Int) > 64)) x157000 x157001 x157002 x157003 x157004 x157005)) else (forebayref07_Rest.j1 k true x157000 x157001 x157002 x157003 x157004 x157005))
def forebayref07_Rest.j1 : Nat → Bool → ByteArray → Int → List (S40) → Int → List (S37) → Int → Option (Int)
  | 0, _, _, _, _, _, _, _ => none
  | k + 1, x31, x157000, x157001, x157002, x157003, x157004, x157005 => if x31 = true then (some 17) else (if x157003 < 1 then (forebayref07_Rest.j2 k true x157000 x157001 x157002 x157003 x157004 x157005) else (if x157003 > 1000000 then (forebayref07_Rest.j2 k true x157000 x157001 x157002 x157003 x157004 x157005) else (if x157001 = 2 then (forebayref07_Rest.j2 k (x157003 != 1000000) x157000 x157001 x157002 x157003 x157004 x157005) else (forebayref07_Rest.j2 k false x157000 x157001 x157002 x157003 x157004 x157005))))
def forebayref07_Rest.j2 : Nat → Bool → ByteArray → Int → List (S40) → Int → List (S37) → Int → Option (Int)
  | 0, _, _, _, _, _, _, _ => none
  | k + 1, x49, x157000, x157001, x157002, x157003, x157004, x157005 => if x49 = true then (some 18) else (if (x157004.length : Int) > 32 then (some 19) else (forebayref07_Rest.l0 k 0 x157000 x157001 x157002 x157003 x157004 x157005))
def forebayref07_Rest.l0 : Nat → Int → ByteArray → Int → List (S40) → Int → List (S37) → Int → Option (Int)
  | 0, _, _, _, _, _, _, _ => none
  | k + 1, x5, x157000, x157001, x157002, x157003, x157004, x157005 => if x5 < (x157004.length : Int) then (if 0 ≤ x5 then ((forebayref06_Check.f ((rd_T37 x157004 x5).f0) ((rd_T37 x157004 x5).f1)).bind fun t159 => (if t159 = 0 then (forebayref07_Rest.l0 k (wrap64 (x5 + 1)) x157000 x157001 x157002 x157003 x157004 x157005) else (some 19))) else (none)) else (if x157005 < 0 then (some 20) else (if x157005 > 1099511627776 then (some 20) else (some 0)))
end
def forebayref07_Rest.f (k : Nat) (a0_0 : ByteArray) (a0_1 : Int) (l0_2 : List (S40)) (a0_3 : Int) (l0_4 : List (S37)) (a0_5 : Int) (a1 : Bool) : Option (Int) := (forebayref07_Name.f k a0_0).bind fun t157 => (if t157 = true then (if a0_1 < 1 then (forebayref07_Rest.j0 k a1 true a0_0 a0_1 l0_2 a0_3 l0_4 a0_5) else (forebayref07_Rest.j0 k a1 (decide (a0_1 > 5)) a0_0 a0_1 l0_2 a0_3 l0_4 a0_5)) else (some 15))
/-! ### forebayref07_Check: function 17 -/
def forebayref07_Check.l0 : Nat → Bool → Int → ByteArray → Int → List (S40) → Int → List (S37) → Int → Option (Int)
  | 0, _, _, _, _, _, _, _, _ => none
  | k + 1, x3, x4, x161000, x161001, x161002, x161003, x161004, x161005 => if x4 < (x161002.length : Int) then (if x3 = true then (if 0 ≤ x4 then ((forebayref03_Check.f k ((rd_T40 x161002 x4).f0) ((rd_T40 x161002 x4).f1) ((rd_T40 x161002 x4).f2)).bind fun t162 => (forebayref07_Check.l0 k (t162 == 0) (wrap64 (x4 + 1)) x161000 x161001 x161002 x161003 x161004 x161005)) else (none)) else (forebayref07_Check.l0 k false (wrap64 (x4 + 1)) x161000 x161001 x161002 x161003 x161004 x161005)) else ((forebayref07_Rest.f k x161000 x161001 x161002 x161003 x161004 x161005 x3).bind fun t163 => (some t163))
def forebayref07_Check.f (k : Nat) (a0_0 : ByteArray) (a0_1 : Int) (l0_2 : List (S40)) (a0_3 : Int) (l0_4 : List (S37)) (a0_5 : Int) : Option (Int) := forebayref07_Check.l0 k true 0 a0_0 a0_1 l0_2 a0_3 l0_4 a0_5
/-! ### forebaylaw07_MetricChecks: function 3 -/
end Go.Proofs.Yteamldgngknmfaa.PE
