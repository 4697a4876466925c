/- A row of tags in memory, and the sort's contract at it; no condition. -/
import Derived.Test.YtclbmdblalgdjaaZLRGetD
import Derived.Test.YtclbmdblalgdjaaZLPDx
import Derived.Sort.Grow
import Derived.Laws.Cover1
import Derived.Shelf.SlSortCmp.InsertionK
import Derived.Shelf.SlGeneric
import Derived.Shelf.SlSortCmp.WholeK
import Derived.Shelf.SlSortCmp.NoneTotal
import Derived.Ground.SlsfProg
import Derived.Test.YtclbmdblalgdjaaProg
import Derived.Test.YtclbmdblalgdjaaZLLawDec
import Derived.RangeFuncNested
import Derived.RangeFuncBound
import Derived.RangeFuncCalls
import Derived.RangeFuncLeaves
import Derived.RangeFuncBox
import Derived.TacticsInMore
import Derived.OwnWalkIn
import Derived.LoopNIn
import Derived.LoopIn
import Derived.Shelf.RegionOpen
import Derived.Maps.OwnIn
namespace Go.Proofs.Ytclbmdblalgdjaa
open Go.RowKit Go.Sort Go.Lib Go.Shelf Go.Proofs.YtclbmdblalgdjaaW.PrintWords Go.Proofs.YtclbmdblalgdjaaW.PrintLast Go.Proofs.YtclbmdblalgdjaaW.PrintMore Go.Proofs.Ytclbmdblalgdjaa.PE
set_option linter.unusedVariables false
set_option linter.unusedSimpArgs false
def encT (t : S81) : List Value := [.string t.f0, .string t.f1]
instance : Inhabited S81 := ⟨z81⟩
end Go.Proofs.Ytclbmdblalgdjaa
