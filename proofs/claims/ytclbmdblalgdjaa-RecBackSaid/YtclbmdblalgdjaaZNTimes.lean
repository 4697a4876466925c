/- Package dec: times; no condition. -/
import Derived.Test.YtclbmdblalgdjaaZNInjV
import Derived.Test.YtclbmdblalgdjaaZNShelf
import Derived.Laws.Externs
namespace Go.Proofs.Ytclbmdblalgdjaa
open Go.RowKit Go.Proofs.YtclbmdblalgdjaaW.PrintWords Go.Proofs.YtclbmdblalgdjaaW.PrintLast Go.Proofs.YtclbmdblalgdjaaW.PrintMore
set_option linter.unusedVariables false
set_option linter.unusedSimpArgs false
def dec_times.f (a0 : Int) (a1 : Int) : Option (Int × Bool) := if (0 ≤ a0 ∧ a0 < 18446744073709551616) ∧ (0 ≤ a1 ∧ a1 < 18446744073709551616) then some ((10 * a0 + a1) % 18446744073709551616, decide (10 * a0 + a1 < 18446744073709551616)) else none
end Go.Proofs.Ytclbmdblalgdjaa
