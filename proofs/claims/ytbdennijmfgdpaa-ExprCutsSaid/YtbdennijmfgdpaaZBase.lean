/- The ground of this seat's own texts: what the walks import; no condition. -/
import Derived.Test.YtbdennijmfgdpaaProg
import Derived.Below
import Derived.Deep.Draws
import Derived.Deep.AppendLies
import Derived.Maps.AppendAt
import Derived.OwnWalk
import Derived.Laws.BytesArg
import Derived.Laws.MakeOwn
import Derived.Laws.OwnMore
import Derived.Deep.OwnRows
import Derived.Tactics
import Derived.Lib.ConvBytes
import Derived.Laws.Slices
import Derived.WalkKit
import Derived.KernelRfl
import Derived.RowKit3
import Derived.Deep.LoopGhost
import Derived.Deep.QuietTactic
import Derived.BigQuiet
import Derived.WideLaws
import Derived.Deep.DeepCutAuto
import Derived.Deep.CutBlock
import Derived.Deep.RegionHeld3
import Derived.Laws.Rows
import Derived.Lib.AppendStr
import Derived.ArgAppend
import Derived.Laws.IdiomCopy
import Derived.OrdersHeld
import Derived.Laws.BitsLemmas
import Derived.RowKit
import Derived.Lib.Hide
import Derived.WalkSpells
import Derived.OpenShut
import Derived.Test.YtbdennijmfgdpaaZWWords
import Derived.Test.YtbdennijmfgdpaaZWLast
import Derived.Test.YtbdennijmfgdpaaZWTab
import Derived.Test.YtbdennijmfgdpaaZWApart
import Derived.Test.YtbdennijmfgdpaaZWArr
import Derived.Test.YtbdennijmfgdpaaZWZeros
import Derived.Test.YtbdennijmfgdpaaZWFoot
import Derived.Test.YtbdennijmfgdpaaZWKept
import Derived.Test.YtbdennijmfgdpaaZWShare
import Derived.Test.YtbdennijmfgdpaaZWN
import Derived.Test.YtbdennijmfgdpaaZWEqStruct
import Derived.Test.YtbdennijmfgdpaaZWRepsOne
import Derived.Test.YtbdennijmfgdpaaZWInv
import Derived.Test.YtbdennijmfgdpaaZWGuard
import Derived.Test.YtbdennijmfgdpaaZWNEv
import Derived.Test.YtbdennijmfgdpaaZWMore
namespace Go.Proofs.Ytbdennijmfgdpaa
open Go.RowKit Go.Proofs.YtbdennijmfgdpaaW.PrintWords Go.Proofs.YtbdennijmfgdpaaW.PrintLast Go.Proofs.YtbdennijmfgdpaaW.PrintMore
section
variable {S S' : Nat → Prop} {w w' w'' : World}
end
section
variable {P : Program} {ops : Array Oper} {rest : List Oper} {o : Oper} {a : Act} {Q : Exit → Act → World → Prop} {α : Type}
end
section
variable {P : Program} {ops : Array Oper} {Q : Exit → Act → World → Prop}
end
theorem add_block (a : Addr) (i : Nat) : (a.add i).block = a.block := by unfold Addr.add; split <;> rfl
section
variable {P : Program} {f : FuncId} {args : Array Value} {w W : World} {Q : Ending → World → Prop}
theorem Calls.stepEq {v : Value} (h : Calls P f args W (fun e w' => e = .returned v ∧ W = w')) (k : Q (.returned v) W) : Calls P f args W Q := by
  refine h.mono ?_
  rintro e w' ⟨rfl, rfl⟩
  exact k
end
section
variable {P : Program} {ops : Array Oper} {rest : List Oper} {o : Oper} {a : Act} {Q : Exit → Act → World → Prop}
end
end Go.Proofs.Ytbdennijmfgdpaa
