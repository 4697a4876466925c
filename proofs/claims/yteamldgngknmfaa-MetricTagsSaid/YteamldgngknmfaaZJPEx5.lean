-- Mended: a text that print.sh wrote for this seat, with one row changed.
import Derived.Test.YteamldgngknmfaaZJPEx0
import Derived.Test.YteamldgngknmfaaZJPEx4
namespace Go.Proofs.Yteamldgngknmfaa.PE
open Go.RowKit Go.Proofs.YteamldgngknmfaaW.PrintWords Go.Proofs.YteamldgngknmfaaW.PrintLast Go.Proofs.YteamldgngknmfaaW.PrintMore
attribute [local go_sem] max2_int min2_int max_two min_two max_three min_three max_four min_four   -- for this text's walks alone
set_option linter.unusedVariables false
set_option linter.unusedSimpArgs false
/-! ### forebayref03_Value: function 89 -/
def forebayref03_Value.l0 : Nat → ByteArray → Int → Int → Option (Int)
  | 0, _, _, _ => none
  | k + 1, x0, x3, x4 => if x4 < (x0.size : Int) then (if 0 ≤ x4 then (forebayref03_Value.l0 k x0 (IntKind.u64.wrap ((IntKind.u64.wrap (10 * x3)) + (((bt x0 x4) - 48) % 256))) (wrap64 (x4 + 1))) else (none)) else (some x3)
def forebayref03_Value.f (k : Nat) (a0 : ByteArray) : Option (Int) := forebayref03_Value.l0 k a0 0 0
/-! ### forebayref03_Make: function 70 -/
mutual
def forebayref03_Make.j1 : Nat → Bool → ByteArray → Int → Option (Bool × Int × Int × Bool)
  | 0, _, _, _ => none
  | k + 1, x0, x1, x2 => if x1.toList = ([] : List UInt8) then (some (false, 0, 0, true)) else (if x2 > 1000 then (forebayref03_Make.j2 k x0 x1 x2 true) else (forebayref03_Make.j2 k x0 x1 x2 (decide (x2 < (-1000000)))))
def forebayref03_Make.j2 : Nat → Bool → ByteArray → Int → Bool → Option (Bool × Int × Int × Bool)
  | 0, _, _, _, _ => none
  | k + 1, x0, x1, x2, x26 => if x26 = true then (some (false, 0, 0, false)) else (forebayref03_Make.l1 k x0 x1 x2)
def forebayref03_Make.j4 : Nat → Bool → ByteArray → Int → Option (Bool × Int × Int × Bool)
  | 0, _, _, _ => none
  | k + 1, x0, x1, x2 => forebayref03_Make.l2 k x0 x1 x2
def forebayref03_Make.l2 : Nat → Bool → ByteArray → Int → Option (Bool × Int × Int × Bool)
  | 0, _, _, _ => none
  | k + 1, x0, x1, x2 => if x2 > 18 then (if x1.size + 1 ≤ 9223372036854775807 then (forebayref03_Make.l2 k x0 (x1 ++ (⟨#[48]⟩ : ByteArray)) (wrap64 (x2 - 1))) else (none)) else (if x2 < (-18) then (some (false, 0, 0, false)) else ((forebayref03_Fits.f x1).bind fun t139 => (if t139 = true then ((forebayref03_Value.f k x1).bind fun t140 => (some (x0, t140, x2, true))) else (some (false, 0, 0, false)))))
def forebayref03_Make.l1 : Nat → Bool → ByteArray → Int → Option (Bool × Int × Int × Bool)
  | 0, _, _, _ => none
  | k + 1, x0, x1, x2 => if x2 < 18 then (if 0 ≤ (wrap64 ((x1.size : Int) - 1)) then (if (wrap64 ((x1.size : Int) - 1)) < (x1.size : Int) then (if (bt x1 (wrap64 ((x1.size : Int) - 1))) = 48 then (if (wrap64 ((x1.size : Int) - 1)) ≤ (x1.size : Int) then (forebayref03_Make.l1 k x0 (x1.extract 0 ((wrap64 ((x1.size : Int) - 1)) : Int).toNat) (wrap64 (x2 + 1))) else (none)) else (forebayref03_Make.j4 k x0 x1 x2)) else (none)) else (none)) else (forebayref03_Make.j4 k x0 x1 x2)
def forebayref03_Make.l0 : Nat → Bool → ByteArray → Int → Option (Bool × Int × Int × Bool)
  | 0, _, _, _ => none
  | k + 1, x0, x1, x2 => if (x1.size : Int) > 0 then (if 0 < (x1.size : Int) then (if (bt x1 0) = 48 then (if 1 ≤ (x1.size : Int) then (forebayref03_Make.l0 k x0 (x1.extract 1 x1.size) x2) else (none)) else (forebayref03_Make.j1 k x0 x1 x2)) else (none)) else (forebayref03_Make.j1 k x0 x1 x2)
end
def forebayref03_Make.f (k : Nat) (a0 : Bool) (a1 : ByteArray) (a2 : Int) : Option (Bool × Int × Int × Bool) := forebayref03_Make.l0 k a0 a1 a2
/-! ### forebayref03_Digits: function 71 -/
def forebayref03_Digits.f : Nat → Int → Option (ByteArray)
  | 0, _ => none
  | k + 1, a0 => if a0 < 10 then (if 0 ≤ a0 then (if a0 ≤ (IntKind.u64.wrap (a0 + 1)) then (if (IntKind.u64.wrap (a0 + 1)) ≤ 10 then (some ((⟨#[48, 49, 50, 51, 52, 53, 54, 55, 56, 57]⟩ : ByteArray).extract (a0 : Int).toNat ((IntKind.u64.wrap (a0 + 1)) : Int).toNat)) else (none)) else (none)) else (none)) else ((forebayref03_Digits.f k (IntKind.u64.wrap (Int.tdiv a0 10))).bind fun t141 => (if 0 ≤ (Int.tmod a0 10) then (if (Int.tmod a0 10) ≤ (IntKind.u64.wrap ((Int.tmod a0 10) + 1)) then (if (IntKind.u64.wrap ((Int.tmod a0 10) + 1)) ≤ 10 then (if t141.size + ((⟨#[48, 49, 50, 51, 52, 53, 54, 55, 56, 57]⟩ : ByteArray).extract ((Int.tmod a0 10) : Int).toNat ((IntKind.u64.wrap ((Int.tmod a0 10) + 1)) : Int).toNat).size ≤ 9223372036854775807 then (some (t141 ++ ((⟨#[48, 49, 50, 51, 52, 53, 54, 55, 56, 57]⟩ : ByteArray).extract ((Int.tmod a0 10) : Int).toNat ((IntKind.u64.wrap ((Int.tmod a0 10) + 1)) : Int).toNat))) else (none)) else (none)) else (none)) else (none)))
end Go.Proofs.Yteamldgngknmfaa.PE
