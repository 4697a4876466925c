-- Printed by the kit's print.py over contracts of this session's own.
import Derived.Test.YthflkmgcifccjaaDoorZPInjP
import Derived.Test.YthflkmgcifccjaaDoorZPInjT
import Derived.Test.YthflkmgcifccjaaDoorZPPEx0
import Derived.Test.YthflkmgcifccjaaDoorZPPEx1
import Derived.Test.YthflkmgcifccjaaDoorZPPEx3
import Derived.Test.YthflkmgcifccjaaDoorZPPEx4
namespace Go.Proofs.YthflkmgcifccjaaDoor.PE
open Go.RowKit Go.Proofs.YthflkmgcifccjaaDoorW.PrintWords Go.Proofs.YthflkmgcifccjaaDoorW.PrintLast Go.Proofs.YthflkmgcifccjaaDoorW.PrintMore
attribute [local go_sem] max2_int min2_int max_two min_two max_three min_three max_four min_four   -- for this text's walks alone
set_option linter.unusedVariables false
set_option linter.unusedSimpArgs false
attribute [local go_sem high] eqA26
/-! ### tag_Text: function 22 -/
def tag_Text.l0 : Nat → List ByteArray → List (S34) → Int → Int → Option (ByteArray × Int × Int)
  | 0, _, _, _, _ => none
  | k + 1, x5, x10, x11, x12 => if x12 < x11 then (if 0 ≤ x12 then (if x12 < (x10.length : Int) then ((tag_Check.f ((rd_T34 x10 x12).f0) ((rd_T34 x10 x12).f1)).bind fun t298 => (if t298 = 0 then (if ((rd_T34 x10 x12).f1).toList = ([] : List UInt8) then (if x5.length < 8796093022208 then (tag_Text.l0 k (x5 ++ [(rd_T34 x10 x12).f0]) x10 x11 (wrap64 (x12 + 1))) else (none)) else (if 1 + ((rd_T34 x10 x12).f1).size ≤ 9223372036854775807 then (if ((rd_T34 x10 x12).f0).size + ((⟨#[58]⟩ : ByteArray) ++ ((rd_T34 x10 x12).f1)).size ≤ 9223372036854775807 then (if x5.length < 8796093022208 then (tag_Text.l0 k (x5 ++ [((rd_T34 x10 x12).f0) ++ ((⟨#[58]⟩ : ByteArray) ++ ((rd_T34 x10 x12).f1))]) x10 x11 (wrap64 (x12 + 1))) else (none)) else (none)) else (none))) else (some ((⟨#[]⟩ : ByteArray), x12, t298)))) else (none)) else (none)) else ((strings_Join.f x5 (⟨#[44]⟩ : ByteArray)).bind fun t295 => (some (t295, 0, 0)))
def tag_Text.f (k : Nat) (l0 : List (S34)) : Option (ByteArray × Int × Int) := tag_Text.l0 k ([] : List ByteArray) l0 (l0.length : Int) 0
/-! ### forebaylaw06_TagBack: function 9 -/
mutual
def forebaylaw06_TagBack.j0 : Nat → List (S34) → ByteArray → Bool → Option (Bool)
  | 0, _, _, _ => none
  | k + 1, x0, x1, x24 => if x24 = true then ((forebaylaw06_awake.f k).bind fun t306 => (some t306)) else (forebaylaw06_TagBack.l0 k x0 x1 (-1) 0)
def forebaylaw06_TagBack.l0 : Nat → List (S34) → ByteArray → Int → Int → Option (Bool)
  | 0, _, _, _, _ => none
  | k + 1, x0, x1, x5, x6 => if x6 < (x0.length : Int) then (forebaylaw06_TagBack.j2 k x0 x1 x5 x6 (decide (x5 < 0))) else (forebaylaw06_TagBack.j2 k x0 x1 x5 x6 false)
def forebaylaw06_TagBack.j2 : Nat → List (S34) → ByteArray → Int → Int → Bool → Option (Bool)
  | 0, _, _, _, _, _ => none
  | k + 1, x0, x1, x5, x6, x33 => if x33 = true then (if 0 ≤ x6 then (if x6 < (x0.length : Int) then ((tag_Check.f ((rd_T34 x0 x6).f0) ((rd_T34 x0 x6).f1)).bind fun t308 => (if t308 = 0 then (forebaylaw06_TagBack.l0 k x0 x1 x5 (wrap64 (x6 + 1))) else (forebaylaw06_TagBack.l0 k x0 x1 x6 (wrap64 (x6 + 1))))) else (none)) else (none)) else ((tag_Text.f k x0).bind fun bt309 => (if x5 ≥ 0 then (if bt309.1.toList = ([] : List UInt8) then (if bt309.2.1 = x5 then (if bt309.2.2 = 19 then (forebaylaw06_TagBack.j3 k x1) else (none)) else (none)) else (none)) else ((tag_Parse.f k bt309.1).bind fun bt312 => (if bt309.2.1 = 0 then (if bt309.2.2 = 0 then (if (x0.length : Int) = 0 then (if bt309.1.toList = ([] : List UInt8) then (if (x0.length : Int) > 0 then (if (!(bt312.2.1 == 0) || (!(bt312.2.2 == 0))) = true then (none) else ((forebaylaw06_same.f k bt312.1 x0).bind fun t318 => (if t318 = true then (forebaylaw06_TagBack.j3 k x1) else (none)))) else (forebaylaw06_TagBack.j3 k x1)) else (none)) else (if (x0.length : Int) > 0 then (if (!(bt312.2.1 == 0) || (!(bt312.2.2 == 0))) = true then (none) else ((forebaylaw06_same.f k bt312.1 x0).bind fun t319 => (if t319 = true then (forebaylaw06_TagBack.j3 k x1) else (none)))) else (forebaylaw06_TagBack.j3 k x1))) else (none)) else (none)))))
def forebaylaw06_TagBack.j3 : Nat → ByteArray → Option (Bool)
  | 0, _ => none
  | k + 1, x1 => (tag_Parse.f k x1).bind fun bt320 => (if (!(bt320.2.1 == 0) || (!(bt320.2.2 == 0))) = true then (if (bt320.1.length : Int) = 0 then (if bt320.2.1 = 19 then (if bt320.2.2 ≥ 0 then (if bt320.2.2 ≤ (x1.size : Int) then ((forebaylaw06_awake.f k).bind fun t326 => (some t326)) else (none)) else (none)) else (none)) else (none)) else ((tag_Text.f k bt320.1).bind fun bt327 => (if bt327.2.2 = 0 then (if bt327.2.1 = 0 then (if bt327.1.toList = x1.toList then (if (bt320.1.length : Int) > 0 then ((forebaylaw06_awake.f k).bind fun t330 => (some t330)) else (none)) else (none)) else (none)) else (none))))
end
end Go.Proofs.YthflkmgcifccjaaDoor.PE
