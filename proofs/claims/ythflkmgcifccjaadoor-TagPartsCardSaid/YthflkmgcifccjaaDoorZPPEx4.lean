-- Printed by the kit's print.py over contracts of this session's own.
import Derived.Test.YthflkmgcifccjaaDoorZPInjT
import Derived.Test.YthflkmgcifccjaaDoorZPInjP
import Derived.Test.YthflkmgcifccjaaDoorZPPEx0
import Derived.Test.YthflkmgcifccjaaDoorZPPEx1
import Derived.Test.YthflkmgcifccjaaDoorZPPEx3
namespace Go.Proofs.YthflkmgcifccjaaDoor.PE
open Go.RowKit Go.Proofs.YthflkmgcifccjaaDoorW.PrintWords Go.Proofs.YthflkmgcifccjaaDoorW.PrintLast Go.Proofs.YthflkmgcifccjaaDoorW.PrintMore
attribute [local go_sem] max2_int min2_int max_two min_two max_three min_three max_four min_four   -- for this text's walks alone
set_option linter.unusedVariables false
set_option linter.unusedSimpArgs false
attribute [local go_sem high] eqA26
/-! ### forebayref06_Parse: function 12 -/
mutual
def forebayref06_Parse.l0 : Nat → ByteArray → List (S34) → Int → Int → Option ((List (S34)) × Int × Int)
  | 0, _, _, _, _ => none
  | k + 1, x0, x4, x5, x6 => if x6 ≤ (x0.size : Int) then (if x6 < (x0.size : Int) then (if 0 ≤ x6 then (forebayref06_Parse.j1 k x0 x4 x5 x6 ((bt x0 x6) != 44)) else (none)) else (forebayref06_Parse.j1 k x0 x4 x5 x6 false)) else (some (x4, 0, 0))
def forebayref06_Parse.j1 : Nat → ByteArray → List (S34) → Int → Int → Bool → Option ((List (S34)) × Int × Int)
  | 0, _, _, _, _, _ => none
  | k + 1, x0, x4, x5, x6, x26 => if x26 = true then (forebayref06_Parse.l0 k x0 x4 x5 (wrap64 (x6 + 1))) else (if 0 ≤ x5 then (if x5 ≤ x6 then (if x6 ≤ (x0.size : Int) then (forebayref06_Parse.l1 k x0 x4 x5 x6 (x0.extract (x5 : Int).toNat (x6 : Int).toNat) (wrap64 (((x0.extract (x5 : Int).toNat (x6 : Int).toNat).size : Int) - 1)) (x0.extract (x5 : Int).toNat (x6 : Int).toNat) (⟨#[]⟩ : ByteArray)) else (none)) else (none)) else (none))
def forebayref06_Parse.l1 : Nat → ByteArray → List (S34) → Int → Int → ByteArray → Int → ByteArray → ByteArray → Option ((List (S34)) × Int × Int)
  | 0, _, _, _, _, _, _, _, _ => none
  | k + 1, x0, x4, x5, x6, x7, x9, x164000, x164001 => if x9 ≥ 0 then (if 0 ≤ x9 then (if x9 < (x7.size : Int) then (if (bt x7 x9) = 58 then (if x9 ≤ (x7.size : Int) then (if 0 ≤ (wrap64 (x9 + 1)) then (if (wrap64 (x9 + 1)) ≤ (x7.size : Int) then (forebayref06_Parse.l1 k x0 x4 x5 x6 x7 (wrap64 (x9 - 1)) (x7.extract 0 (x9 : Int).toNat) (x7.extract ((wrap64 (x9 + 1)) : Int).toNat x7.size)) else (none)) else (none)) else (none)) else (forebayref06_Parse.l1 k x0 x4 x5 x6 x7 (wrap64 (x9 - 1)) x164000 x164001)) else (none)) else (none)) else ((forebayref06_Right.f x164000 x164001).bind fun t164 => (if t164 = true then ((forebayref06_One.f x164000 x164001).bind fun t165 => (if t165.toList = x7.toList then (if x4.length < 4398046511104 then (forebayref06_Parse.l0 k x0 (x4 ++ [(⟨x164000, x164001⟩ : S34)]) (wrap64 (x6 + 1)) (wrap64 (x6 + 1))) else (none)) else (some (([] : List (S34)), 19, x5)))) else (some (([] : List (S34)), 19, x5))))
end
/-! ### forebaylaw06_TagParses: function 3 -/
-- NOT PRINTED: function 4 (forebaylaw06_TagParts)
/-! ### forebaylaw06_Few: function 14 -/
mutual
def forebaylaw06_Few.l0 : Nat → List (S34) → Int → Option (Bool)
  | 0, _, _ => none
  | k + 1, x0, x3 => if x3 < (x0.length : Int) then (forebaylaw06_Few.j1 k x0 x3 (decide (x3 < 61))) else (forebaylaw06_Few.j1 k x0 x3 false)
def forebaylaw06_Few.j1 : Nat → List (S34) → Int → Bool → Option (Bool)
  | 0, _, _, _ => none
  | k + 1, x0, x3, x11 => if x11 = true then (if 0 ≤ x3 then (if x3 < (x0.length : Int) then (if (((rd_T34 x0 x3).f0).size : Int) > 200 then (some false) else (if (((rd_T34 x0 x3).f1).size : Int) > 200 then (some false) else (forebaylaw06_Few.l0 k x0 (wrap64 (x3 + 1))))) else (none)) else (none)) else (some (decide ((x0.length : Int) ≤ 60)))
end
/-! ### tag_Less: function 17 -/
def tag_Less.f (a0_0 : ByteArray) (a0_1 : ByteArray) (a1_0 : ByteArray) (a1_1 : ByteArray) : Option (Bool) := if a0_0.toList = a1_0.toList then (some (Op.bytesLess a0_1.toList a1_1.toList)) else (some (Op.bytesLess a0_0.toList a1_0.toList))
/-! ### forebayref06_Ahead: function 28 -/
mutual
def forebayref06_Ahead.l0 : Nat → ByteArray → ByteArray → Int → Option (Bool)
  | 0, _, _, _ => none
  | k + 1, x0, x1, x5 => if x5 < (x0.size : Int) then (forebayref06_Ahead.j1 k x0 x1 x5 (decide (x5 < (x1.size : Int)))) else (forebayref06_Ahead.j1 k x0 x1 x5 false)
def forebayref06_Ahead.j1 : Nat → ByteArray → ByteArray → Int → Bool → Option (Bool)
  | 0, _, _, _, _ => none
  | k + 1, x0, x1, x5, x15 => if x15 = true then (if 0 ≤ x5 then (if x5 < (x0.size : Int) then (if x5 < (x1.size : Int) then (if (bt x0 x5) = (bt x1 x5) then (forebayref06_Ahead.l0 k x0 x1 (wrap64 (x5 + 1))) else (some (decide ((bt x0 x5) < (bt x1 x5))))) else (none)) else (none)) else (none)) else (some (decide ((x0.size : Int) < (x1.size : Int))))
end
def forebayref06_Ahead.f (k : Nat) (a0 : ByteArray) (a1 : ByteArray) : Option (Bool) := forebayref06_Ahead.l0 k a0 a1 0
/-! ### forebayref06_Less: function 18 -/
def forebayref06_Less.f (k : Nat) (a0_0 : ByteArray) (a0_1 : ByteArray) (a1_0 : ByteArray) (a1_1 : ByteArray) : Option (Bool) := (forebayref06_Ahead.f k a0_0 a1_0).bind fun t190 => (if t190 = true then (some true) else (if a0_0.toList = a1_0.toList then ((forebayref06_Ahead.f k a0_1 a1_1).bind fun t191 => (some t191)) else (some false)))
/-! ### forebaylaw06_TagChecks: function 5 -/
def forebaylaw06_TagChecks.j0 : Nat → Int → ByteArray → ByteArray → ByteArray → ByteArray → Option (Bool)
  | 0, _, _, _, _, _ => none
  | k + 1, x5, x193000, x193001, x194000, x194001 => (tag_Check.f x193000 x193001).bind fun t200 => (if t200 = x5 then ((tag_Less.f x193000 x193001 x194000 x194001).bind fun t201 => ((forebayref06_Less.f k x193000 x193001 x194000 x194001).bind fun t202 => (if (t201 == t202) = true then ((forebaylaw06_awake.f k).bind fun t203 => (some t203)) else (none)))) else (none))
end Go.Proofs.YthflkmgcifccjaaDoor.PE
