-- Out of a text that print.sh wrote for this seat: what this claim does not use is left out.
import Derived.Test.YtclbmdblalgdjaaZNPEx0
import Derived.Test.YtclbmdblalgdjaaZNPEx3
import Derived.Test.YtclbmdblalgdjaaZNPEx7
import Derived.Test.YtclbmdblalgdjaaZNPEx8
namespace Go.Proofs.Ytclbmdblalgdjaa.PE
open Go.RowKit Go.Proofs.YtclbmdblalgdjaaW.PrintWords Go.Proofs.YtclbmdblalgdjaaW.PrintLast Go.Proofs.YtclbmdblalgdjaaW.PrintMore
attribute [local go_sem] max2_int min2_int max_two min_two max_three min_three max_four min_four   -- for this text's walks alone
set_option linter.unusedVariables false
set_option linter.unusedSimpArgs false
attribute [local go_sem high] eqA81
/-! ### forebayref06_Normal: function 89 -/
mutual
def forebayref06_Normal.l0 : Nat → List (S81) → List (S81) → Int → Option ((List (S81)))
  | 0, _, _, _ => none
  | k + 1, x0, x3, x4 => if x4 < (x0.length : Int) then (forebayref06_Normal.l1 k x0 x3 x4 (([] : List (S81))) false 0) else (some x3)
def forebayref06_Normal.l1 : Nat → List (S81) → List (S81) → Int → List (S81) → Bool → Int → Option ((List (S81)))
  | 0, _, _, _, _, _, _ => none
  | k + 1, x0, x3, x4, x5, x6, x7 => if x7 < (x3.length : Int) then (if x6 = true then (forebayref06_Normal.j2 k x0 x3 x4 x5 x6 x7 false) else (if 0 ≤ x7 then (if 0 ≤ x4 then (if x4 < (x0.length : Int) then ((forebayref06_Less.f k ((rd_T81 x3 x7).f0) ((rd_T81 x3 x7).f1) ((rd_T81 x0 x4).f0) ((rd_T81 x0 x4).f1)).bind fun t169 => (forebayref06_Normal.j2 k x0 x3 x4 x5 x6 x7 (!t169))) else (none)) else (none)) else (none))) else (if x6 = true then (forebayref06_Normal.l0 k x0 x5 (wrap64 (x4 + 1))) else (if 0 ≤ x4 then (if x4 < (x0.length : Int) then (if x5.length < 4398046511104 then (forebayref06_Normal.l0 k x0 (x5 ++ [(⟨(rd_T81 x0 x4).f0, (rd_T81 x0 x4).f1⟩ : S81)]) (wrap64 (x4 + 1))) else (none)) else (none)) else (none)))
def forebayref06_Normal.j2 : Nat → List (S81) → List (S81) → Int → List (S81) → Bool → Int → Bool → Option ((List (S81)))
  | 0, _, _, _, _, _, _, _ => none
  | k + 1, x0, x3, x4, x5, x6, x7, x35 => if x35 = true then (if 0 ≤ x7 then (if x7 < (x3.length : Int) then (if 0 ≤ x4 then (if x4 < (x0.length : Int) then (if (!((((rd_T81 x3 x7).f0).toList) == (((rd_T81 x0 x4).f0).toList)) || (!((((rd_T81 x3 x7).f1).toList) == (((rd_T81 x0 x4).f1).toList)))) = true then (if x5.length < 4398046511104 then ((some (x5 ++ [(⟨(rd_T81 x0 x4).f0, (rd_T81 x0 x4).f1⟩ : S81)] : List (S81))).bind fun y173 => (if y173.length < 4398046511104 then (forebayref06_Normal.l1 k x0 x3 x4 (y173 ++ [(⟨(rd_T81 x3 x7).f0, (rd_T81 x3 x7).f1⟩ : S81)]) true (wrap64 (x7 + 1))) else (none))) else (none)) else (if x5.length < 4398046511104 then (forebayref06_Normal.l1 k x0 x3 x4 (x5 ++ [(⟨(rd_T81 x3 x7).f0, (rd_T81 x3 x7).f1⟩ : S81)]) true (wrap64 (x7 + 1))) else (none))) else (none)) else (none)) else (none)) else (none)) else (if 0 ≤ x7 then (if x7 < (x3.length : Int) then (if x5.length < 4398046511104 then (forebayref06_Normal.l1 k x0 x3 x4 (x5 ++ [(⟨(rd_T81 x3 x7).f0, (rd_T81 x3 x7).f1⟩ : S81)]) x6 (wrap64 (x7 + 1))) else (none)) else (none)) else (none))
end
def forebayref06_Normal.f (k : Nat) (l0 : List (S81)) : Option ((List (S81))) := forebayref06_Normal.l0 k l0 (([] : List (S81))) 0
/-! ### forebayref07_Normal: function 43 -/
def forebayref07_Normal.l0 : Nat → Bool → List (S48) → Int → ByteArray → Int → List (S48) → Int → List (S81) → Int → Option (ByteArray × Int × (List (S48)) × Int × (List (S81)) × Int × Int)
  | 0, _, _, _, _, _, _, _, _, _ => none
  | k + 1, x4, x5, x6, x189000, x189001, x189002, x189003, x189004, x189005 => if x6 < (x189002.length : Int) then (if 0 ≤ x6 then ((forebayref03_Normal.f k ((rd_T48 x189002 x6).f0) ((rd_T48 x189002 x6).f1) ((rd_T48 x189002 x6).f2)).bind fun bt191 => (if x4 = true then (if x5.length < 5864062014805 then (forebayref07_Normal.l0 k (bt191.2.2.2 == 0) (x5 ++ [(⟨bt191.1, bt191.2.1, bt191.2.2.1⟩ : S48)]) (wrap64 (x6 + 1)) x189000 x189001 x189002 x189003 x189004 x189005) else (none)) else (if x5.length < 5864062014805 then (forebayref07_Normal.l0 k false (x5 ++ [(⟨bt191.1, bt191.2.1, bt191.2.2.1⟩ : S48)]) (wrap64 (x6 + 1)) x189000 x189001 x189002 x189003 x189004 x189005) else (none)))) else (none)) else ((forebayref07_Rest.f k x189000 x189001 x189002 x189003 x189004 x189005 x4).bind fun t202 => (if t202 = 0 then ((forebayref06_Normal.f k x189004).bind fun t203 => (some (x189000, x189001, x5, x189003, t203, x189005, 0))) else (some ((⟨#[]⟩ : ByteArray), 0, ([] : List (S48)), 0, ([] : List (S81)), 0, t202))))
end Go.Proofs.Ytclbmdblalgdjaa.PE
