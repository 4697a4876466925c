/- The document's one form of a metric is package metric's; its Equal, its Is; plain; no condition. -/
import Derived.Test.YtclbmdblalgdjaaZLRGetD
import Derived.Test.YtclbmdblalgdjaaZLLawDec
import Derived.Test.YtclbmdblalgdjaaZLPDx
import Derived.Test.YtclbmdblalgdjaaZLPEx8
import Derived.Test.YtclbmdblalgdjaaZLRTagN
import Derived.Test.YtclbmdblalgdjaaZLTagN
import Derived.RangeFuncNested
import Derived.RangeFuncBound
import Derived.RangeFuncCalls
import Derived.RangeFuncLeaves
import Derived.RangeFuncBox
import Derived.TacticsInMore
import Derived.OwnWalkIn
import Derived.LoopNIn
import Derived.LoopIn
import Derived.Shelf.RegionOpen
import Derived.Maps.OwnIn
import Derived.Test.YtclbmdblalgdjaaZLPEx4
import Derived.Test.YtclbmdblalgdjaaZLPEx9
namespace Go.Proofs.Ytclbmdblalgdjaa.PE
open Go.RowKit Go.Proofs.YtclbmdblalgdjaaW.PrintWords Go.Proofs.YtclbmdblalgdjaaW.PrintLast Go.Proofs.YtclbmdblalgdjaaW.PrintMore Go.Proofs.Ytclbmdblalgdjaa
set_option linter.unusedVariables false
set_option linter.unusedSimpArgs false
theorem mis_ev (m : S26) (hm : metIn m = true) (h4 : m.f4.length ≤ 1000000) : Ev (fun k => metric_Is.f k m.f0 m.f1 m.f2 m.f3 m.f4 m.f5) (decide (metBad m = 0) && tIs m.f4) := by
  unfold metric_Is.f
  refine Ev.congr (f := fun k => if metBad m = 0 then ((tag_Is.f k m.f4).bind fun t238 => (some t238)) else (some false)) (fun k => by rw [mcheck_f m hm]; rfl) ?_
  by_cases h : metBad m = 0
  · rw [decide_eq_true h, Bool.true_and]
    exact Ev.congr (fun k => if_pos h) (Ev.bind (tagis_ev m.f4 (by omega)) (Ev.now _))
  · rw [decide_eq_false h, Bool.false_and]
    exact Ev.congr (fun k => if_neg h) (Ev.now _)
end Go.Proofs.Ytclbmdblalgdjaa.PE
