/- Plain laws of rows of numbers as bytes, read one by one; no program in sight; no condition. -/
import Derived.Test.YtclbmdblalgdjaaZMPlVarB
import Derived.Test.YtclbmdblalgdjaaZMCurNil
namespace Go.Proofs.Ytclbmdblalgdjaa
open Go.RowKit Go.Proofs.YtclbmdblalgdjaaW.PrintWords
def rowB (l : List Int) : List Int := l.flatMap fun x => vput x.toNat
end Go.Proofs.Ytclbmdblalgdjaa
