-- Printed by the kit's print.py; the places of nil slices told.
import Derived.Test.YtbdennijmfgdpaaVPEx0
import Derived.Test.YtbdennijmfgdpaaVPEx7
namespace Go.Proofs.Ytbdennijmfgdpaa.PE
open Go.RowKit Go.Proofs.YtbdennijmfgdpaaW.PrintWords Go.Proofs.YtbdennijmfgdpaaW.PrintLast Go.Proofs.YtbdennijmfgdpaaW.PrintMore
attribute [local go_sem] max2_int min2_int max_two min_two max_three min_three max_four min_four   -- for this text's walks alone
set_option linter.unusedVariables false
set_option linter.unusedSimpArgs false
/-! ### forebayref08_Check: function 52 -/
def forebayref08_Check.l0 : Nat → List (S25) → Int → Option (Int × Int)
  | 0, _, _ => none
  | k + 1, x0, x4 => if x4 < (x0.length : Int) then (if 0 ≤ x4 then ((forebayref07_Check.f k ((rd_T25 x0 x4).f0) ((rd_T25 x0 x4).f1) ((rd_T25 x0 x4).f2) ((rd_T25 x0 x4).f3) ((rd_T25 x0 x4).f4) ((rd_T25 x0 x4).f5)).bind fun t133 => (if t133 = 0 then (forebayref08_Check.l0 k x0 (wrap64 (x4 + 1))) else (some (x4, t133)))) else (none)) else (some (0, 0))
def forebayref08_Check.f (k : Nat) (l0 : List (S25)) : Option (Int × Int) := if (l0.length : Int) > 1000 then (some (1000, 12)) else (forebayref08_Check.l0 k l0 0)
/-! ### forebayref09_Batch: function 22 -/
mutual
def forebayref09_Batch.j0 : Nat → List (S25) → Int → Bool → Option (Int × Int)
  | 0, _, _, _ => none
  | k + 1, x0, x1, x14 => if x14 = true then (some (0, 29)) else ((forebayref08_Check.f k x0).bind fun bt134 => (if bt134.2 = 0 then (forebayref09_Batch.l0 k x0 x1 0) else (some (bt134.1, bt134.2))))
def forebayref09_Batch.l0 : Nat → List (S25) → Int → Int → Option (Int × Int)
  | 0, _, _, _ => none
  | k + 1, x0, x1, x8 => if x8 < (x0.length : Int) then (if 0 ≤ x8 then ((forebayref09_Says.f k ((rd_T25 x0 x8).f0) ((rd_T25 x0 x8).f1) ((rd_T25 x0 x8).f2) ((rd_T25 x0 x8).f3) ((rd_T25 x0 x8).f4) ((rd_T25 x0 x8).f5) x1).bind fun t137 => (if t137 = true then (forebayref09_Batch.l0 k x0 x1 (wrap64 (x8 + 1))) else (some (x8, 26)))) else (none)) else (some (0, 0))
end
def forebayref09_Batch.f (k : Nat) (l0 : List (S25)) (a1 : Int) : Option (Int × Int) := if a1 < 1 then (forebayref09_Batch.j0 k l0 a1 true) else (forebayref09_Batch.j0 k l0 a1 (decide (a1 > 4)))
/-! ### forebayref07_Copy: function 47 -/
def forebayref07_Copy.f (a0_0 : ByteArray) (a0_1 : Int) (l0_2 : List (S46)) (a0_3 : Int) (l0_4 : List (S48)) (a0_5 : Int) : Option (ByteArray × Int × (List (S46)) × Int × (List (S48)) × Int) := (some (([] : List (S46)) : List (S46))).bind fun y140 => (if y140.length + l0_2.length < 5864062014805 then ((some (([] : List (S48)) : List (S48))).bind fun y146 => (if y146.length + l0_4.length < 4398046511104 then (some (a0_0, a0_1, (y140 ++ l0_2), a0_3, (y146 ++ l0_4), a0_5)) else (none))) else (none))
/-! ### forebayref09_Cut: function 15 -/
mutual
def forebayref09_Cut.j0 : Nat → Int → Bool → ByteArray → Int → List (S46) → Int → List (S48) → Int → Option ((List (S25)) × Int)
  | 0, _, _, _, _, _, _, _, _ => none
  | k + 1, x1, x15, x153000, x153001, x153002, x153003, x153004, x153005 => if x15 = true then (some (([] : List (S25)), 29)) else ((forebayref07_Check.f k x153000 x153001 x153002 x153003 x153004 x153005).bind fun t153 => (if t153 = 0 then (if x1 = 2 then (forebayref09_Cut.j1 k x1 true x153000 x153001 x153002 x153003 x153004 x153005) else (forebayref09_Cut.j1 k x1 (x1 == 4) x153000 x153001 x153002 x153003 x153004 x153005)) else (some (([] : List (S25)), t153))))
def forebayref09_Cut.j1 : Nat → Int → Bool → ByteArray → Int → List (S46) → Int → List (S48) → Int → Option ((List (S25)) × Int)
  | 0, _, _, _, _, _, _, _, _ => none
  | k + 1, x1, x26, x153000, x153001, x153002, x153003, x153004, x153005 => if x26 = true then ((forebayref07_Copy.f x153000 x153001 x153002 x153003 x153004 x153005).bind fun bt154 => (some ((([(⟨bt154.1, bt154.2.1, bt154.2.2.1, bt154.2.2.2.1, bt154.2.2.2.2.1, bt154.2.2.2.2.2⟩ : S25)] : List (S25))), 0))) else (forebayref09_Cut.l0 k x1 ([] : List (S25)) 0 x153000 x153001 x153002 x153003 x153004 x153005)
def forebayref09_Cut.l0 : Nat → Int → List (S25) → Int → ByteArray → Int → List (S46) → Int → List (S48) → Int → Option ((List (S25)) × Int)
  | 0, _, _, _, _, _, _, _, _, _ => none
  | k + 1, x1, x7, x8, x153000, x153001, x153002, x153003, x153004, x153005 => if x8 < (x153002.length : Int) then (if 0 ≤ x8 then ((some (([(⟨(rd_T46 x153002 x8).f0, (rd_T46 x153002 x8).f1, (rd_T46 x153002 x8).f2⟩ : S46)] : List (S46)) : List (S46))).bind fun y169 => (if x1 = 1 then ((forebayref09_Says.f k x153000 x153001 y169 x153003 ([] : List (S48)) 0 x1).bind fun t172 => (if t172 = true then (if x7.length < 1599289640401 then (forebayref09_Cut.l0 k x1 (x7 ++ [(⟨x153000, x153001, y169, x153003, ([] : List (S48)), 0⟩ : S25)]) (wrap64 (x8 + 1)) x153000 x153001 x153002 x153003 x153004 x153005) else (none)) else (forebayref09_Cut.l0 k x1 x7 (wrap64 (x8 + 1)) x153000 x153001 x153002 x153003 x153004 x153005))) else ((forebayref09_Says.f k x153000 x153001 y169 x153003 ([] : List (S48)) x153005 x1).bind fun t176 => (if t176 = true then (if x7.length < 1599289640401 then (forebayref09_Cut.l0 k x1 (x7 ++ [(⟨x153000, x153001, y169, x153003, ([] : List (S48)), x153005⟩ : S25)]) (wrap64 (x8 + 1)) x153000 x153001 x153002 x153003 x153004 x153005) else (none)) else (forebayref09_Cut.l0 k x1 x7 (wrap64 (x8 + 1)) x153000 x153001 x153002 x153003 x153004 x153005))))) else (none)) else (if (x7.length : Int) = 0 then (some (([] : List (S25)), 26)) else (some (x7, 0)))
end
end Go.Proofs.Ytbdennijmfgdpaa.PE
