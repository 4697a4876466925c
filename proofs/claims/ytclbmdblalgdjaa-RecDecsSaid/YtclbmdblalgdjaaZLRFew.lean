/- Few, of a metric; the elements of rows; plain; no condition. -/
import Derived.Test.YtclbmdblalgdjaaZLRGetD
import Derived.Test.YtclbmdblalgdjaaZLPEx10
namespace Go.Proofs.Ytclbmdblalgdjaa.PE
open Go.RowKit Go.Proofs.YtclbmdblalgdjaaW.PrintWords Go.Proofs.YtclbmdblalgdjaaW.PrintLast Go.Proofs.YtclbmdblalgdjaaW.PrintMore Go.Proofs.Ytclbmdblalgdjaa
set_option linter.unusedVariables false
set_option linter.unusedSimpArgs false
theorem rd_tag (l : List S81) (i : Nat) (h : i < l.length) : rd_T81 l (i : Int) = l[i]'h := by
  unfold rd_T81
  rw [Int.toNat_natCast, List.getD_eq_getElem?_getD, List.getElem?_eq_getElem h]
  rfl
theorem w1 (i : Nat) (h : i < 9223372036854775807) : wrap64 ((i : Int) + 1) = ((i + 1 : Nat) : Int) := by
  rw [IntWalk.wrap64_in ((i : Int) + 1) (by omega)]
  omega
theorem mcheck_f (m : S26) (hm : metIn m = true) : metric_Check.f m.f0 m.f1 m.f2 m.f3 m.f4 m.f5 = some (metBad m) := if_pos hm
end Go.Proofs.Ytclbmdblalgdjaa.PE
