import Derived.Test.YthflkmgcifccjaaDoorRows
import GoSem.ClaimSeven
/-
  DERIVED. GIVEN WITH THE SEED: THE CARDS: each row of YthflkmgcifccjaaDoorRows.lean that lists a variable, with what it lists TIED to the program's text (the seventh form; the later family's looks); each row that meets fmt, with fmt's text TOLD by the authors' own Lean function (tested against real Go, not proved from fmt's source: count such statements apart). THE CARD IS WHAT COUNTS. Prove the row's statement (the work); the ties are given (YthflkmgcifccjaaDoorTie.lean); close each card by the builder's one call (the guide's Derived/Test/ToyasCard.lean, 'card_holds'). Laid BY PROGRAM, IN A SANDBOX (cutbox-door.mjs). By AI agents, Wed Nov 11 2026. No macro, syntax, notation, axiom, sorry.
-/
namespace Go.Proofs.YthflkmgcifccjaaDoor
namespace Rows
def tagOrderCard : Claim7 := { stood := { row := tagOrderRow, standIns := [], harness := (true, "7405c6c9d14e472597feaed2b6f7e925267658c344bffd3d58ca8335669a8a11"), looks := false }, kinds := [], alts := [], laidByText := true, laidKinds := [.data, .pinned], laidTests := true, laidLooks := .later }
def TagOrderCardSaid : Prop := Claim7.holds Tryd.pinned (.plain (OpenSpec.ofChange tagOrderSpec)) tagOrderCard
end Rows
end Go.Proofs.YthflkmgcifccjaaDoor
