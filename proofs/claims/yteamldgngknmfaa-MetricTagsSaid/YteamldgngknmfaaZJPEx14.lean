-- Printed by the kit's print.py over contracts of this session's own.
import Derived.Test.YteamldgngknmfaaZJInjN
import Derived.Test.YteamldgngknmfaaZJPEx0
import Derived.Test.YteamldgngknmfaaZJPEx4
import Derived.Test.YteamldgngknmfaaZJPEx8
import Derived.Test.YteamldgngknmfaaZJPEx10
namespace Go.Proofs.Yteamldgngknmfaa.PE
open Go.RowKit Go.Proofs.YteamldgngknmfaaW.PrintWords Go.Proofs.YteamldgngknmfaaW.PrintLast Go.Proofs.YteamldgngknmfaaW.PrintMore
attribute [local go_sem] max2_int min2_int max_two min_two max_three min_three max_four min_four   -- for this text's walks alone
set_option linter.unusedVariables false
set_option linter.unusedSimpArgs false
/-! ### forebaylaw08_Few: function 28 -/
mutual
def forebaylaw08_Few.l0 : Nat → List (S25) → Int → Option (Bool)
  | 0, _, _ => none
  | k + 1, x0, x3 => if x3 < (x0.length : Int) then (forebaylaw08_Few.j1 k x0 x3 (decide (x3 < 13))) else (forebaylaw08_Few.j1 k x0 x3 false)
def forebaylaw08_Few.j1 : Nat → List (S25) → Int → Bool → Option (Bool)
  | 0, _, _, _ => none
  | k + 1, x0, x3, x11 => if x11 = true then (if 0 ≤ x3 then (if x3 < (x0.length : Int) then ((forebaylaw07_Few.f k ((rd_T25 x0 x3).f0) ((rd_T25 x0 x3).f1) ((rd_T25 x0 x3).f2) ((rd_T25 x0 x3).f3) ((rd_T25 x0 x3).f4) ((rd_T25 x0 x3).f5)).bind fun t469 => (if t469 = true then (forebaylaw08_Few.l0 k x0 (wrap64 (x3 + 1))) else (some false))) else (none)) else (none)) else (some (decide ((x0.length : Int) ≤ 12)))
end
/-! ### forebaylaw08_texts: function 36 -/
def forebaylaw08_texts.l0 : Nat → List ByteArray → List ByteArray → Int → Option (Bool)
  | 0, _, _, _ => none
  | k + 1, x0, x1, x5 => if x5 < (x0.length : Int) then (if 0 ≤ x5 then (if x5 < (x1.length : Int) then (if (rdOf ByteArray.empty x0 x5).toList = (rdOf ByteArray.empty x1 x5).toList then (forebaylaw08_texts.l0 k x0 x1 (wrap64 (x5 + 1))) else (some false)) else (none)) else (none)) else (some true)
def forebaylaw08_texts.f (k : Nat) (l0 : List ByteArray) (l1 : List ByteArray) : Option (Bool) := if (l0.length : Int) = (l1.length : Int) then (forebaylaw08_texts.l0 k l0 l1 0) else (some false)
/-! ### forebaylaw08_awake: function 29 -/
def forebaylaw08_awake.f (k : Nat)  : Option (Bool) := (batch_Check.f (([(⟨(⟨#[97]⟩ : ByteArray), 1, (([(⟨false, 0, 0⟩ : S40)] : List (S40))), 1000000, ([] : List (S37)), 0⟩ : S25), (⟨(⟨#[97]⟩ : ByteArray), 1, ([] : List (S40)), 1000000, ([] : List (S37)), 0⟩ : S25)] : List (S25)))).bind fun bt478 => ((batch_Names.f (([(⟨(⟨#[98]⟩ : ByteArray), 0, ([] : List (S40)), 0, ([] : List (S37)), 0⟩ : S25), (⟨(⟨#[97]⟩ : ByteArray), 0, ([] : List (S40)), 0, ([] : List (S37)), 0⟩ : S25), (⟨(⟨#[98]⟩ : ByteArray), 0, ([] : List (S40)), 0, ([] : List (S37)), 0⟩ : S25)] : List (S25)))).bind fun t483 => ((forebaylaw08_texts.f k t483 (([(⟨#[98]⟩ : ByteArray), (⟨#[97]⟩ : ByteArray)] : List ByteArray))).bind fun t489 => (if t489 = true then (if bt478.1 = 1 then (some (bt478.2 == 17)) else (none)) else (none))))
/-! ### forebayref08_Check: function 31 -/
def forebayref08_Check.l0 : Nat → List (S25) → Int → Option (Int × Int)
  | 0, _, _ => none
  | k + 1, x0, x4 => if x4 < (x0.length : Int) then (if 0 ≤ x4 then ((forebayref07_Check.f k ((rd_T25 x0 x4).f0) ((rd_T25 x0 x4).f1) ((rd_T25 x0 x4).f2) ((rd_T25 x0 x4).f3) ((rd_T25 x0 x4).f4) ((rd_T25 x0 x4).f5)).bind fun t491 => (if t491 = 0 then (forebayref08_Check.l0 k x0 (wrap64 (x4 + 1))) else (some (x4, t491)))) else (none)) else (some (0, 0))
def forebayref08_Check.f (k : Nat) (l0 : List (S25)) : Option (Int × Int) := if (l0.length : Int) > 1000 then (some (1000, 12)) else (forebayref08_Check.l0 k l0 0)
/-! ### forebayref08_Normal: function 33 -/
def forebayref08_Normal.l0 : Nat → List (S25) → List (S25) → Int → Option ((List (S25)) × Int × Int)
  | 0, _, _, _ => none
  | k + 1, x0, x5, x6 => if x6 < (x0.length : Int) then (if 0 ≤ x6 then ((forebayref07_Normal.f k ((rd_T25 x0 x6).f0) ((rd_T25 x0 x6).f1) ((rd_T25 x0 x6).f2) ((rd_T25 x0 x6).f3) ((rd_T25 x0 x6).f4) ((rd_T25 x0 x6).f5)).bind fun bt493 => (if bt493.2.2.2.2.2.2 = 0 then (if x5.length < 1599289640401 then (forebayref08_Normal.l0 k x0 (x5 ++ [(⟨bt493.1, bt493.2.1, bt493.2.2.1, bt493.2.2.2.1, bt493.2.2.2.2.1, bt493.2.2.2.2.2.1⟩ : S25)]) (wrap64 (x6 + 1))) else (none)) else (some (([] : List (S25)), x6, bt493.2.2.2.2.2.2)))) else (none)) else (some (x5, 0, 0))
/-! ### forebayref08_Equal: function 34 -/
def forebayref08_Equal.l0 : Nat → List (S25) → List (S25) → Int → Option (Bool)
  | 0, _, _, _ => none
  | k + 1, x0, x1, x5 => if x5 < (x0.length : Int) then (if 0 ≤ x5 then (if x5 < (x1.length : Int) then ((forebayref07_Equal.f k ((rd_T25 x0 x5).f0) ((rd_T25 x0 x5).f1) ((rd_T25 x0 x5).f2) ((rd_T25 x0 x5).f3) ((rd_T25 x0 x5).f4) ((rd_T25 x0 x5).f5) ((rd_T25 x1 x5).f0) ((rd_T25 x1 x5).f1) ((rd_T25 x1 x5).f2) ((rd_T25 x1 x5).f3) ((rd_T25 x1 x5).f4) ((rd_T25 x1 x5).f5)).bind fun t510 => (if t510 = true then (forebayref08_Equal.l0 k x0 x1 (wrap64 (x5 + 1))) else (some false))) else (none)) else (none)) else (some true)
/-! ### forebaylaw08_BatchChecks: function 9 -/
-- NOT PRINTED: function 10 (forebaylaw08_BatchBehind)
/-! ### batch_Same: function 38 -/
/-! ### forebayref08_Names: function 39 -/
mutual
def forebayref08_Names.l0 : Nat → List (S25) → List ByteArray → Int → Option (List ByteArray)
  | 0, _, _, _ => none
  | k + 1, x0, x3, x4 => if x4 < (x0.length : Int) then (forebayref08_Names.l1 k x0 x3 x4 false 0) else (some x3)
def forebayref08_Names.l1 : Nat → List (S25) → List ByteArray → Int → Bool → Int → Option (List ByteArray)
  | 0, _, _, _, _, _ => none
  | k + 1, x0, x3, x4, x5, x6 => if x6 < x4 then (if x5 = true then (forebayref08_Names.l1 k x0 x3 x4 true (wrap64 (x6 + 1))) else (if 0 ≤ x6 then (if x6 < (x0.length : Int) then (if 0 ≤ x4 then (if x4 < (x0.length : Int) then (forebayref08_Names.l1 k x0 x3 x4 (((rd_T25 x0 x6).f0).toList == ((rd_T25 x0 x4).f0).toList) (wrap64 (x6 + 1))) else (none)) else (none)) else (none)) else (none))) else (if x5 = true then (forebayref08_Names.l0 k x0 x3 (wrap64 (x4 + 1))) else (if 0 ≤ x4 then (if x4 < (x0.length : Int) then (if x3.length < 8796093022208 then (forebayref08_Names.l0 k x0 (x3 ++ [(rd_T25 x0 x4).f0]) (wrap64 (x4 + 1))) else (none)) else (none)) else (none)))
end
end Go.Proofs.Yteamldgngknmfaa.PE
