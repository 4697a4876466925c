-- Printed by the kit's print.py over contracts of this session's own.
import Derived.Test.YthflkmgcifccjaaDoorZPInjTN
import Derived.Test.YthflkmgcifccjaaDoorZPInjP
import Derived.Test.YthflkmgcifccjaaDoorZPPEx0
import Derived.Test.YthflkmgcifccjaaDoorZPPEx2
import Derived.Test.YthflkmgcifccjaaDoorZPPEx3
import Derived.Test.YthflkmgcifccjaaDoorZPPEx4
namespace Go.Proofs.YthflkmgcifccjaaDoor.PE
open Go.RowKit Go.Proofs.YthflkmgcifccjaaDoorW.PrintWords Go.Proofs.YthflkmgcifccjaaDoorW.PrintLast Go.Proofs.YthflkmgcifccjaaDoorW.PrintMore
attribute [local go_sem] max2_int min2_int max_two min_two max_three min_three max_four min_four   -- for this text's walks alone
set_option linter.unusedVariables false
set_option linter.unusedSimpArgs false
attribute [local go_sem high] eqA34
/-! ### forebayref06_Normal: function 19 -/
mutual
def forebayref06_Normal.l0 : Nat → List (S34) → List (S34) → Int → Option ((List (S34)))
  | 0, _, _, _ => none
  | k + 1, x0, x3, x4 => if x4 < (x0.length : Int) then (forebayref06_Normal.l1 k x0 x3 x4 (([] : List (S34))) false 0) else (some x3)
def forebayref06_Normal.l1 : Nat → List (S34) → List (S34) → Int → List (S34) → Bool → Int → Option ((List (S34)))
  | 0, _, _, _, _, _, _ => none
  | k + 1, x0, x3, x4, x5, x6, x7 => if x7 < (x3.length : Int) then (if x6 = true then (forebayref06_Normal.j2 k x0 x3 x4 x5 x6 x7 false) else (if 0 ≤ x7 then (if 0 ≤ x4 then (if x4 < (x0.length : Int) then ((forebayref06_Less.f k ((rd_T34 x3 x7).f0) ((rd_T34 x3 x7).f1) ((rd_T34 x0 x4).f0) ((rd_T34 x0 x4).f1)).bind fun t216 => (forebayref06_Normal.j2 k x0 x3 x4 x5 x6 x7 (!t216))) else (none)) else (none)) else (none))) else (if x6 = true then (forebayref06_Normal.l0 k x0 x5 (wrap64 (x4 + 1))) else (if 0 ≤ x4 then (if x4 < (x0.length : Int) then (if x5.length < 4398046511104 then (forebayref06_Normal.l0 k x0 (x5 ++ [(⟨(rd_T34 x0 x4).f0, (rd_T34 x0 x4).f1⟩ : S34)]) (wrap64 (x4 + 1))) else (none)) else (none)) else (none)))
def forebayref06_Normal.j2 : Nat → List (S34) → List (S34) → Int → List (S34) → Bool → Int → Bool → Option ((List (S34)))
  | 0, _, _, _, _, _, _, _ => none
  | k + 1, x0, x3, x4, x5, x6, x7, x35 => if x35 = true then (if 0 ≤ x7 then (if x7 < (x3.length : Int) then (if 0 ≤ x4 then (if x4 < (x0.length : Int) then (if (!((((rd_T34 x3 x7).f0).toList) == (((rd_T34 x0 x4).f0).toList)) || (!((((rd_T34 x3 x7).f1).toList) == (((rd_T34 x0 x4).f1).toList)))) = true then (if x5.length < 4398046511104 then ((some (x5 ++ [(⟨(rd_T34 x0 x4).f0, (rd_T34 x0 x4).f1⟩ : S34)] : List (S34))).bind fun y220 => (if y220.length < 4398046511104 then (forebayref06_Normal.l1 k x0 x3 x4 (y220 ++ [(⟨(rd_T34 x3 x7).f0, (rd_T34 x3 x7).f1⟩ : S34)]) true (wrap64 (x7 + 1))) else (none))) else (none)) else (if x5.length < 4398046511104 then (forebayref06_Normal.l1 k x0 x3 x4 (x5 ++ [(⟨(rd_T34 x3 x7).f0, (rd_T34 x3 x7).f1⟩ : S34)]) true (wrap64 (x7 + 1))) else (none))) else (none)) else (none)) else (none)) else (none)) else (if 0 ≤ x7 then (if x7 < (x3.length : Int) then (if x5.length < 4398046511104 then (forebayref06_Normal.l1 k x0 x3 x4 (x5 ++ [(⟨(rd_T34 x3 x7).f0, (rd_T34 x3 x7).f1⟩ : S34)]) x6 (wrap64 (x7 + 1))) else (none)) else (none)) else (none))
end
/-! ### tag_Is: function 21 -/
def tag_Is.l0 : Nat → List (S34) → Int → Option (Bool)
  | 0, _, _ => none
  | k + 1, x0, x3 => if x3 < (x0.length : Int) then (if 0 ≤ (wrap64 (x3 - 1)) then (if (wrap64 (x3 - 1)) < (x0.length : Int) then (if 0 ≤ x3 then ((tag_Less.f ((rd_T34 x0 (wrap64 (x3 - 1))).f0) ((rd_T34 x0 (wrap64 (x3 - 1))).f1) ((rd_T34 x0 x3).f0) ((rd_T34 x0 x3).f1)).bind fun t237 => (if t237 = true then (tag_Is.l0 k x0 (wrap64 (x3 + 1))) else (some false))) else (none)) else (none)) else (none)) else (some true)
/-! ### forebaylaw06_TagNormal: function 6 -/
-- NOT PRINTED: function 7 (forebaylaw06_TagOrder)
end Go.Proofs.YthflkmgcifccjaaDoor.PE
