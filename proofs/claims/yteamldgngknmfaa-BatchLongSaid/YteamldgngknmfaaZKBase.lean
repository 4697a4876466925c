/- The ground of this seat's own texts: what the walks import; no condition. -/
import Derived.Test.YteamldgngknmfaaProg
import Derived.Below
import Derived.Deep.Draws
import Derived.Deep.AppendLies
import Derived.Maps.AppendAt
import Derived.OwnWalk
import Derived.Laws.BytesArg
import Derived.Laws.MakeOwn
import Derived.Laws.OwnMore
import Derived.Deep.OwnRows
import Derived.Tactics
import Derived.Lib.ConvBytes
import Derived.Laws.Slices
import Derived.WalkKit
import Derived.KernelRfl
import Derived.RowKit3
import Derived.Deep.LoopGhost
import Derived.Deep.QuietTactic
import Derived.BigQuiet
import Derived.WideLaws
import Derived.Deep.DeepCutAuto
import Derived.Deep.CutBlock
import Derived.Deep.RegionHeld3
import Derived.Laws.Rows
import Derived.Lib.AppendStr
import Derived.ArgAppend
import Derived.Laws.IdiomCopy
import Derived.OrdersHeld
import Derived.Laws.BitsLemmas
import Derived.RowKit
import Derived.Lib.Hide
import Derived.WalkSpells
import Derived.OpenShut
import Derived.Test.YteamldgngknmfaaZKWWords
import Derived.Test.YteamldgngknmfaaZKWLast
import Derived.Test.YteamldgngknmfaaZKWTab
import Derived.Test.YteamldgngknmfaaZKWApart
import Derived.Test.YteamldgngknmfaaZKWArr
import Derived.Test.YteamldgngknmfaaZKWZeros
import Derived.Test.YteamldgngknmfaaZKWFoot
import Derived.Test.YteamldgngknmfaaZKWKept
import Derived.Test.YteamldgngknmfaaZKWShare
import Derived.Test.YteamldgngknmfaaZKWN
import Derived.Test.YteamldgngknmfaaZKWEqStruct
import Derived.Test.YteamldgngknmfaaZKWRepsOne
import Derived.Test.YteamldgngknmfaaZKWInv
import Derived.Test.YteamldgngknmfaaZKWGuard
import Derived.Test.YteamldgngknmfaaZKWNEv
import Derived.Test.YteamldgngknmfaaZKWMore
namespace Go.Proofs.Yteamldgngknmfaa
open Go.RowKit Go.Proofs.YteamldgngknmfaaW.PrintWords Go.Proofs.YteamldgngknmfaaW.PrintLast Go.Proofs.YteamldgngknmfaaW.PrintMore
structure Chg (S : Nat → Prop) (w w' : World) : Prop where
  os : w'.os = w.os
  tape : w'.tape = w.tape
  output : w'.output = w.output
  size : w.heap.size ≤ w'.heap.size
  block : ∀ k, k < w.heap.size → ¬ S k → w'.heap[k]? = w.heap[k]?
section
variable {S S' : Nat → Prop} {w w' w'' : World}
theorem Chg.refl (S : Nat → Prop) (w : World) : Chg S w w := ⟨rfl, rfl, rfl, Nat.le_refl _, fun _ _ _ => rfl⟩
theorem Chg.trans (h : Chg S w w') (k : Chg S' w' w'') (hs : ∀ k, S' k → S k ∨ w.heap.size ≤ k) : Chg S w w'' :=
  ⟨k.os.trans h.os, k.tape.trans h.tape, k.output.trans h.output, Nat.le_trans h.size k.size, fun i hi hn =>
    (k.block i (Nat.lt_of_lt_of_le hi h.size) (fun h2 => (hs i h2).elim hn (fun h3 => by omega))).trans (h.block i hi hn)⟩
theorem Chg.of_below (h : Below w.heap.size w w') (S : Nat → Prop) : Chg S w w' := ⟨h.os, h.tape, h.output, h.size, fun k hk _ => h.block k hk⟩
theorem Chg.to_below {B : Nat} (h : Chg S w w') (hs : ∀ k, S k → B ≤ k) (hB : B ≤ w.heap.size) : Below B w w' :=
  ⟨h.os, h.tape, h.output, h.size, fun k hk => h.block k (by omega) (fun h1 => by have := hs k h1; omega)⟩
theorem Chg.below (h : Chg S w w') (hb : Below w'.heap.size w' w'') : Chg S w w'' := h.trans (Chg.of_below hb (fun _ => False)) (fun _ h => h.elim)
theorem Chg.drew (h : Chg S w w') : Chg S w w'.drew := h.below (below_drew1 (Below.refl _ _))
end
section
variable {P : Program} {ops : Array Oper} {rest : List Oper} {o : Oper} {a : Act} {Q : Exit → Act → World → Prop} {α : Type}
end
section
variable {P : Program} {ops : Array Oper} {Q : Exit → Act → World → Prop}
end
section
variable {P : Program} {f : FuncId} {args : Array Value} {w W : World} {Q : Ending → World → Prop}
theorem Calls.stepEq {v : Value} (h : Calls P f args W (fun e w' => e = .returned v ∧ W = w')) (k : Q (.returned v) W) : Calls P f args W Q := by
  refine h.mono ?_
  rintro e w' ⟨rfl, rfl⟩
  exact k
end
section
variable {P : Program} {ops : Array Oper} {rest : List Oper} {o : Oper} {a : Act} {Q : Exit → Act → World → Prop}
end
end Go.Proofs.Yteamldgngknmfaa
