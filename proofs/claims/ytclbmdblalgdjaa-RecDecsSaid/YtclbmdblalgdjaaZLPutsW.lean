/- Words that are put, one behind the other; no condition. -/
import Derived.Test.YtclbmdblalgdjaaZLLaw15B
namespace Go.Proofs.Ytclbmdblalgdjaa
open Go.RowKit Go.Proofs.YtclbmdblalgdjaaW.PrintWords Go.Proofs.YtclbmdblalgdjaaW.PrintLast Go.Proofs.YtclbmdblalgdjaaW.PrintMore
set_option linter.unusedVariables false
def putsW (ws : List ByteArray) : List ByteArray → List ByteArray
  | [] => ws
  | s :: t => putsW (dput ws s).2.2 t
end Go.Proofs.Ytclbmdblalgdjaa
