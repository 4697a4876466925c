-- Out of a text that print.sh wrote for this seat: what this claim does not use is left out.
import Derived.Test.YtbdennijmfgdpaaVPEx0
import Derived.Test.YtbdennijmfgdpaaVPEx5
import Derived.Test.YtbdennijmfgdpaaVPEx6
namespace Go.Proofs.Ytbdennijmfgdpaa.PE
open Go.RowKit Go.Proofs.YtbdennijmfgdpaaW.PrintWords Go.Proofs.YtbdennijmfgdpaaW.PrintLast Go.Proofs.YtbdennijmfgdpaaW.PrintMore
attribute [local go_sem] max2_int min2_int max_two min_two max_three min_three max_four min_four   -- for this text's walks alone
set_option linter.unusedVariables false
set_option linter.unusedSimpArgs false
/-! ### forebayref07_Rest: function 93 -/
mutual
def forebayref07_Rest.j0 : Nat → Bool → Bool → ByteArray → Int → List (S46) → Int → List (S48) → Int → Option (Int)
  | 0, _, _, _, _, _, _, _, _ => none
  | k + 1, x1, x17, x120000, x120001, x120002, x120003, x120004, x120005 => if x17 = true then (some 16) else (if x1 = true then (if (x120002.length : Int) < 1 then (forebayref07_Rest.j1 k true x120000 x120001 x120002 x120003 x120004 x120005) else (forebayref07_Rest.j1 k (decide ((x120002.length : Int) > 64)) x120000 x120001 x120002 x120003 x120004 x120005)) else (forebayref07_Rest.j1 k true x120000 x120001 x120002 x120003 x120004 x120005))
def forebayref07_Rest.j1 : Nat → Bool → ByteArray → Int → List (S46) → Int → List (S48) → Int → Option (Int)
  | 0, _, _, _, _, _, _, _ => none
  | k + 1, x31, x120000, x120001, x120002, x120003, x120004, x120005 => if x31 = true then (some 17) else (if x120003 < 1 then (forebayref07_Rest.j2 k true x120000 x120001 x120002 x120003 x120004 x120005) else (if x120003 > 1000000 then (forebayref07_Rest.j2 k true x120000 x120001 x120002 x120003 x120004 x120005) else (if x120001 = 2 then (forebayref07_Rest.j2 k (x120003 != 1000000) x120000 x120001 x120002 x120003 x120004 x120005) else (forebayref07_Rest.j2 k false x120000 x120001 x120002 x120003 x120004 x120005))))
def forebayref07_Rest.j2 : Nat → Bool → ByteArray → Int → List (S46) → Int → List (S48) → Int → Option (Int)
  | 0, _, _, _, _, _, _, _ => none
  | k + 1, x49, x120000, x120001, x120002, x120003, x120004, x120005 => if x49 = true then (some 18) else (if (x120004.length : Int) > 32 then (some 19) else (forebayref07_Rest.l0 k 0 x120000 x120001 x120002 x120003 x120004 x120005))
def forebayref07_Rest.l0 : Nat → Int → ByteArray → Int → List (S46) → Int → List (S48) → Int → Option (Int)
  | 0, _, _, _, _, _, _, _ => none
  | k + 1, x5, x120000, x120001, x120002, x120003, x120004, x120005 => if x5 < (x120004.length : Int) then (if 0 ≤ x5 then ((forebayref06_Check.f ((rd_T48 x120004 x5).f0) ((rd_T48 x120004 x5).f1)).bind fun t122 => (if t122 = 0 then (forebayref07_Rest.l0 k (wrap64 (x5 + 1)) x120000 x120001 x120002 x120003 x120004 x120005) else (some 19))) else (none)) else (if x120005 < 0 then (some 20) else (if x120005 > 1099511627776 then (some 20) else (some 0)))
end
def forebayref07_Rest.f (k : Nat) (a0_0 : ByteArray) (a0_1 : Int) (l0_2 : List (S46)) (a0_3 : Int) (l0_4 : List (S48)) (a0_5 : Int) (a1 : Bool) : Option (Int) := (forebayref07_Name.f k a0_0).bind fun t120 => (if t120 = true then (if a0_1 < 1 then (forebayref07_Rest.j0 k a1 true a0_0 a0_1 l0_2 a0_3 l0_4 a0_5) else (forebayref07_Rest.j0 k a1 (decide (a0_1 > 5)) a0_0 a0_1 l0_2 a0_3 l0_4 a0_5)) else (some 15))
/-! ### forebayref07_Check: function 46 -/
def forebayref07_Check.l0 : Nat → Bool → Int → ByteArray → Int → List (S46) → Int → List (S48) → Int → Option (Int)
  | 0, _, _, _, _, _, _, _, _ => none
  | k + 1, x3, x4, x124000, x124001, x124002, x124003, x124004, x124005 => if x4 < (x124002.length : Int) then (if x3 = true then (if 0 ≤ x4 then ((forebayref03_Check.f k ((rd_T46 x124002 x4).f0) ((rd_T46 x124002 x4).f1) ((rd_T46 x124002 x4).f2)).bind fun t125 => (forebayref07_Check.l0 k (t125 == 0) (wrap64 (x4 + 1)) x124000 x124001 x124002 x124003 x124004 x124005)) else (none)) else (forebayref07_Check.l0 k false (wrap64 (x4 + 1)) x124000 x124001 x124002 x124003 x124004 x124005)) else ((forebayref07_Rest.f k x124000 x124001 x124002 x124003 x124004 x124005 x3).bind fun t126 => (some t126))
def forebayref07_Check.f (k : Nat) (a0_0 : ByteArray) (a0_1 : Int) (l0_2 : List (S46)) (a0_3 : Int) (l0_4 : List (S48)) (a0_5 : Int) : Option (Int) := forebayref07_Check.l0 k true 0 a0_0 a0_1 l0_2 a0_3 l0_4 a0_5
/-! ### forebayref09_Says: function 48 -/
def forebayref09_Says.j0 : Nat → Int → Bool → ByteArray → Int → List (S46) → Int → List (S48) → Int → Option (Bool)
  | 0, _, _, _, _, _, _, _, _ => none
  | k + 1, x1, x5, x128000, x128001, x128002, x128003, x128004, x128005 => if x1 = 1 then (if x5 = true then (if x128005 = 0 then (if x128001 = 5 then (some false) else (if x128001 = 2 then (if 0 < (x128002.length : Int) then (some (!((rd_T46 x128002 0).f0))) else (none)) else (some (!false)))) else (some false)) else (some false)) else (if x1 = 3 then (if x5 = true then (if x128005 = 0 then (some false) else (some (x128001 == 2))) else (some false)) else (some true))
def forebayref09_Says.f (k : Nat) (a0_0 : ByteArray) (a0_1 : Int) (l0_2 : List (S46)) (a0_3 : Int) (l0_4 : List (S48)) (a0_5 : Int) (a1 : Int) : Option (Bool) := if (l0_2.length : Int) = 1 then (forebayref09_Says.j0 k a1 ((l0_4.length : Int) == 0) a0_0 a0_1 l0_2 a0_3 l0_4 a0_5) else (forebayref09_Says.j0 k a1 false a0_0 a0_1 l0_2 a0_3 l0_4 a0_5)
/-! ### forebayref09_Metric: function 18 -/
def forebayref09_Metric.j0 : Nat → Int → Bool → ByteArray → Int → List (S46) → Int → List (S48) → Int → Option (Int)
  | 0, _, _, _, _, _, _, _, _ => none
  | k + 1, x1, x11, x130000, x130001, x130002, x130003, x130004, x130005 => if x11 = true then (some 29) else ((forebayref07_Check.f k x130000 x130001 x130002 x130003 x130004 x130005).bind fun t130 => (if t130 = 0 then ((forebayref09_Says.f k x130000 x130001 x130002 x130003 x130004 x130005 x1).bind fun t131 => (if t131 = true then (some t130) else (some 26))) else (some t130)))
def forebayref09_Metric.f (k : Nat) (a0_0 : ByteArray) (a0_1 : Int) (l0_2 : List (S46)) (a0_3 : Int) (l0_4 : List (S48)) (a0_5 : Int) (a1 : Int) : Option (Int) := if a1 < 1 then (forebayref09_Metric.j0 k a1 true a0_0 a0_1 l0_2 a0_3 l0_4 a0_5) else (forebayref09_Metric.j0 k a1 (decide (a1 > 4)) a0_0 a0_1 l0_2 a0_3 l0_4 a0_5)
end Go.Proofs.Ytbdennijmfgdpaa.PE
