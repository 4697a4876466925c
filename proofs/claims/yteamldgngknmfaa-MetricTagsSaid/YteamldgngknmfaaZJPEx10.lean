-- Printed by the kit's print.py over contracts of this session's own.
import Derived.Test.YteamldgngknmfaaZJLawMetB
import Derived.Test.YteamldgngknmfaaZJPEx0
import Derived.Test.YteamldgngknmfaaZJPEx1
import Derived.Test.YteamldgngknmfaaZJPEx8
import Derived.Test.YteamldgngknmfaaZJPEx9
namespace Go.Proofs.Yteamldgngknmfaa.PE
open Go.RowKit Go.Proofs.YteamldgngknmfaaW.PrintWords Go.Proofs.YteamldgngknmfaaW.PrintLast Go.Proofs.YteamldgngknmfaaW.PrintMore
attribute [local go_sem] max2_int min2_int max_two min_two max_three min_three max_four min_four   -- for this text's walks alone
set_option linter.unusedVariables false
set_option linter.unusedSimpArgs false
attribute [local go_sem high] eqA37
/-! ### forebayref06_Normal: function 53 -/
mutual
def forebayref06_Normal.l0 : Nat → List (S37) → List (S37) → Int → Option ((List (S37)))
  | 0, _, _, _ => none
  | k + 1, x0, x3, x4 => if x4 < (x0.length : Int) then (forebayref06_Normal.l1 k x0 x3 x4 (([] : List (S37))) false 0) else (some x3)
def forebayref06_Normal.l1 : Nat → List (S37) → List (S37) → Int → List (S37) → Bool → Int → Option ((List (S37)))
  | 0, _, _, _, _, _, _ => none
  | k + 1, x0, x3, x4, x5, x6, x7 => if x7 < (x3.length : Int) then (if x6 = true then (forebayref06_Normal.j2 k x0 x3 x4 x5 x6 x7 false) else (if 0 ≤ x7 then (if 0 ≤ x4 then (if x4 < (x0.length : Int) then ((forebayref06_Less.f k ((rd_T37 x3 x7).f0) ((rd_T37 x3 x7).f1) ((rd_T37 x0 x4).f0) ((rd_T37 x0 x4).f1)).bind fun t194 => (forebayref06_Normal.j2 k x0 x3 x4 x5 x6 x7 (!t194))) else (none)) else (none)) else (none))) else (if x6 = true then (forebayref06_Normal.l0 k x0 x5 (wrap64 (x4 + 1))) else (if 0 ≤ x4 then (if x4 < (x0.length : Int) then (if x5.length < 4398046511104 then (forebayref06_Normal.l0 k x0 (x5 ++ [(⟨(rd_T37 x0 x4).f0, (rd_T37 x0 x4).f1⟩ : S37)]) (wrap64 (x4 + 1))) else (none)) else (none)) else (none)))
def forebayref06_Normal.j2 : Nat → List (S37) → List (S37) → Int → List (S37) → Bool → Int → Bool → Option ((List (S37)))
  | 0, _, _, _, _, _, _, _ => none
  | k + 1, x0, x3, x4, x5, x6, x7, x35 => if x35 = true then (if 0 ≤ x7 then (if x7 < (x3.length : Int) then (if 0 ≤ x4 then (if x4 < (x0.length : Int) then (if (!((((rd_T37 x3 x7).f0).toList) == (((rd_T37 x0 x4).f0).toList)) || (!((((rd_T37 x3 x7).f1).toList) == (((rd_T37 x0 x4).f1).toList)))) = true then (if x5.length < 4398046511104 then ((some (x5 ++ [(⟨(rd_T37 x0 x4).f0, (rd_T37 x0 x4).f1⟩ : S37)] : List (S37))).bind fun y198 => (if y198.length < 4398046511104 then (forebayref06_Normal.l1 k x0 x3 x4 (y198 ++ [(⟨(rd_T37 x3 x7).f0, (rd_T37 x3 x7).f1⟩ : S37)]) true (wrap64 (x7 + 1))) else (none))) else (none)) else (if x5.length < 4398046511104 then (forebayref06_Normal.l1 k x0 x3 x4 (x5 ++ [(⟨(rd_T37 x3 x7).f0, (rd_T37 x3 x7).f1⟩ : S37)]) true (wrap64 (x7 + 1))) else (none))) else (none)) else (none)) else (none)) else (none)) else (if 0 ≤ x7 then (if x7 < (x3.length : Int) then (if x5.length < 4398046511104 then (forebayref06_Normal.l1 k x0 x3 x4 (x5 ++ [(⟨(rd_T37 x3 x7).f0, (rd_T37 x3 x7).f1⟩ : S37)]) x6 (wrap64 (x7 + 1))) else (none)) else (none)) else (none))
end
def forebayref06_Normal.f (k : Nat) (l0 : List (S37)) : Option ((List (S37))) := forebayref06_Normal.l0 k l0 (([] : List (S37))) 0
/-! ### forebayref07_Normal: function 19 -/
def forebayref07_Normal.l0 : Nat → Bool → List (S40) → Int → ByteArray → Int → List (S40) → Int → List (S37) → Int → Option (ByteArray × Int × (List (S40)) × Int × (List (S37)) × Int × Int)
  | 0, _, _, _, _, _, _, _, _, _ => none
  | k + 1, x4, x5, x6, x214000, x214001, x214002, x214003, x214004, x214005 => if x6 < (x214002.length : Int) then (if 0 ≤ x6 then ((forebayref03_Normal.f k ((rd_T40 x214002 x6).f0) ((rd_T40 x214002 x6).f1) ((rd_T40 x214002 x6).f2)).bind fun bt216 => (if x4 = true then (if x5.length < 5864062014805 then (forebayref07_Normal.l0 k (bt216.2.2.2 == 0) (x5 ++ [(⟨bt216.1, bt216.2.1, bt216.2.2.1⟩ : S40)]) (wrap64 (x6 + 1)) x214000 x214001 x214002 x214003 x214004 x214005) else (none)) else (if x5.length < 5864062014805 then (forebayref07_Normal.l0 k false (x5 ++ [(⟨bt216.1, bt216.2.1, bt216.2.2.1⟩ : S40)]) (wrap64 (x6 + 1)) x214000 x214001 x214002 x214003 x214004 x214005) else (none)))) else (none)) else ((forebayref07_Rest.f k x214000 x214001 x214002 x214003 x214004 x214005 x4).bind fun t227 => (if t227 = 0 then ((forebayref06_Normal.f k x214004).bind fun t228 => (some (x214000, x214001, x5, x214003, t228, x214005, 0))) else (some ((⟨#[]⟩ : ByteArray), 0, ([] : List (S40)), 0, ([] : List (S37)), 0, t227))))
def forebayref07_Normal.f (k : Nat) (a0_0 : ByteArray) (a0_1 : Int) (l0_2 : List (S40)) (a0_3 : Int) (l0_4 : List (S37)) (a0_5 : Int) : Option (ByteArray × Int × (List (S40)) × Int × (List (S37)) × Int × Int) := forebayref07_Normal.l0 k true ([] : List (S40)) 0 a0_0 a0_1 l0_2 a0_3 l0_4 a0_5
/-! ### tag_Less: function 57 -/
def tag_Less.f (a0_0 : ByteArray) (a0_1 : ByteArray) (a1_0 : ByteArray) (a1_1 : ByteArray) : Option (Bool) := if a0_0.toList = a1_0.toList then (some (Op.bytesLess a0_1.toList a1_1.toList)) else (some (Op.bytesLess a0_0.toList a1_0.toList))
/-! ### tag_Is: function 27 -/
def tag_Is.l0 : Nat → List (S37) → Int → Option (Bool)
  | 0, _, _ => none
  | k + 1, x0, x3 => if x3 < (x0.length : Int) then (if 0 ≤ (wrap64 (x3 - 1)) then (if (wrap64 (x3 - 1)) < (x0.length : Int) then (if 0 ≤ x3 then ((tag_Less.f ((rd_T37 x0 (wrap64 (x3 - 1))).f0) ((rd_T37 x0 (wrap64 (x3 - 1))).f1) ((rd_T37 x0 x3).f0) ((rd_T37 x0 x3).f1)).bind fun t235 => (if t235 = true then (tag_Is.l0 k x0 (wrap64 (x3 + 1))) else (some false))) else (none)) else (none)) else (none)) else (some true)
def tag_Is.f (k : Nat) (l0 : List (S37)) : Option (Bool) := tag_Is.l0 k l0 1
/-! ### metric_Is: function 21 -/
def metric_Is.f (k : Nat) (a0_0 : ByteArray) (a0_1 : Int) (l0_2 : List (S40)) (a0_3 : Int) (l0_4 : List (S37)) (a0_5 : Int) : Option (Bool) := (metric_Check.f a0_0 a0_1 l0_2 a0_3 l0_4 a0_5).bind fun t237 => (if t237 = 0 then ((tag_Is.f k l0_4).bind fun t238 => (some t238)) else (some false))
end Go.Proofs.Yteamldgngknmfaa.PE
