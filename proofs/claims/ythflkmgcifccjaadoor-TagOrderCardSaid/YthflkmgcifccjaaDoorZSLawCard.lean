/- A world in which the listed tables lie; the library's MaxLen out of the world's shape; no condition. -/
import Derived.Test.YthflkmgcifccjaaDoorRows
import Derived.Test.YthflkmgcifccjaaDoorZSTie
import Derived.Test.YthflkmgcifccjaaDoorZSCards
import Derived.Test.YthflkmgcifccjaaDoorZSInjP
import Derived.Lib.LaidIn
import Derived.Lib.LaidU8
import Derived.Deep.DeepHandedRow
import Derived.Deep.DeepWitnessRowRef
import Derived.SevenTiedAt
import Derived.ProofKit
import Derived.SizedLaws
namespace Go.Proofs.YthflkmgcifccjaaDoor
open Go.RowKit Go.Lib Go.Proofs.YthflkmgcifccjaaDoor.PE
noncomputable def laidWorld (os : Os) : World :=
  let w0 := World.holding Tryd.prog os ⟨#[], #[], []⟩
  let put (h : Array Obj) (g : Nat) (cs : Array Value) : Array Obj := h.modify g fun
    | .cells _ t frozen => .cells cs t frozen
    | o => o
  let h1 := put w0.heap 1 (Lib.firstTab.map fun z => Value.int .u8 z).toArray
  let h2 := put h1 2 ((List.range 16).flatMap fun i => [Value.int .u8 (Lib.accLo i), Value.int .u8 (Lib.accHi i)]).toArray
  { w0 with heap := h2 }
theorem laid_met (os : Os) (args : Array Value) : laidMet Tryd.prog Rows.tagParsesRow.laid ((laidWorld os).forCall (fun _ _ => 0) ⟨#[], args, []⟩).memory :=
  (LaidIn.of_run (l := [("unicode/utf8.acceptRanges", Rows.laid_unicode_utf8_acceptRanges), ("unicode/utf8.first", Rows.laid_unicode_utf8_first)]) [2, 1] 8 (by kernel_rfl) (by kernel_rfl) (by kernel_rfl) (by kernel_rfl)).met
theorem maxAt_of {W : World} (h : W.ShapedOpen Tryd.prog) : MaxAt W := Tryd.laysM146.s1_3 W h
end Go.Proofs.YthflkmgcifccjaaDoor
