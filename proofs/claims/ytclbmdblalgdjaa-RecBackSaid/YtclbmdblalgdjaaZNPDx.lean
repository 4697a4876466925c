-- Out of a text that print.sh wrote for this seat: what this claim does not use is left out.
import Derived.Test.YtclbmdblalgdjaaZNPDx0
import Derived.Test.YtclbmdblalgdjaaZNPDx1
namespace Go.Proofs.Ytclbmdblalgdjaa.PD
open Go.RowKit Go.Proofs.YtclbmdblalgdjaaW.PrintWords Go.Proofs.YtclbmdblalgdjaaW.PrintLast Go.Proofs.YtclbmdblalgdjaaW.PrintMore
attribute [local go_sem] max2_int min2_int max_two min_two max_three min_three max_four min_four   -- for this text's walks alone
set_option linter.unusedVariables false
set_option linter.unusedSimpArgs false
end Go.Proofs.Ytclbmdblalgdjaa.PD
