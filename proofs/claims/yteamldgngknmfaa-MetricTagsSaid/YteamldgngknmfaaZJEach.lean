/- A range over a function whose iterator turns nothing that lay ahead of it, and whose body may leave; no condition. -/
import Derived.Test.YteamldgngknmfaaZJLawArr
import Derived.RangeFuncNested
import Derived.RangeFuncBound
import Derived.RangeFuncCalls
import Derived.RangeFuncLeaves
import Derived.RangeFuncBox
import Derived.TacticsInMore
import Derived.OwnWalkIn
import Derived.LoopNIn
import Derived.LoopIn
import Derived.Shelf.RegionOpen
import Derived.Maps.OwnIn
namespace Go.Proofs.Yteamldgngknmfaa
open Go.RowKit Go.Proofs.YteamldgngknmfaaW.PrintWords Go.Proofs.YteamldgngknmfaaW.PrintLast Go.Proofs.YteamldgngknmfaaW.PrintMore
set_option linter.unusedVariables false
set_option linter.unusedSimpArgs false
theorem ea_fn (f : FuncId) : Fence.wide.fn f = True := rfl
theorem ea_depth : Fence.wide.depth = none := rfl
section
variable {S T : Nat → Prop} {w w' w2 : World}
end
theorem ea_setCell {S : Nat → Prop} {w w' : World} {p : Addr} (h : Chg S w w') (hp : S p.block ∨ w.heap.size ≤ p.block) (u : Value) : Chg S w (w'.setCell p u) :=
  ⟨h.os, h.tape, h.output, by simpa [World.setCell] using h.size, fun k hk hn => (Below.heap_setCell w' p u k (fun e => hp.elim (fun h1 => hn (e ▸ h1)) (fun h1 => by omega))).trans (h.block k hk hn)⟩
end Go.Proofs.Yteamldgngknmfaa
