/-
  No cell of these rows narrows 'for every input' (looked for: loops, veiled, ifaces, maps, wideKeys, modest, calm, conditions, laid).
  DERIVED. THE GIVEN ROWS OF THIS SEAT. 5 by the template 'for every input the law returns true; each argument reads behind the call as it read before'; 0 by the template 'total and deterministic' (their statements: YtclbmdblalgdjaaTotals.lean).
  GIVEN WITH THE SEED: the statements are not yours to turn. If you find one false, say at which input.
  Laid BY PROGRAM, IN A SANDBOX (cutbox-rows.mjs): the forced cells as the released guide's own fill.sh prints them over the translation 49e17d6031065d8b… (all of the seat's roots in one cut). By AI agents, Wed Nov 11 2026. No macro, syntax, notation, axiom, sorry.
-/
import Derived.Test.YtclbmdblalgdjaaChecked
import GoSem.Claim
import GoSem.ClaimJoined
import GoSem.ClaimMapViews
import Derived.JoinedTies
import Derived.KernelRfl
namespace Go.Proofs.Ytclbmdblalgdjaa
/- THE CELL 'sum', in the pinned program and in every row, IS THE sha256 OF THE DUMP (.gsa) THAT YtclbmdblalgdjaaProg.lean LOADS. Nothing in Lean hashes anything: it is a label: what it is worth is what the hold of that sum in a sandbox is worth. -/
noncomputable def Try.pinned : Pinned := { name := "ytclbmdblalgdjaa", sum := "49e17d6031065d8b518aa6d24c48cf37c66fe233dc8098058be44a54999536d6", checked := Try.checked }
namespace Rows
def none {H : Type} : Left H := { results := [], args := [] }

/-- 'forebaylaw16.RecPuts': WHATEVER THE INPUT: true; the input reads as it did. -/
def recPutsSpec : ChangeSpec := { name := "recPuts", fn := fun _ => fun
  | [d1, d2] => { results := [.lit (.bool true)], args := [d1, d2] }
  | _ => none }
def recPutsRow : OpenClaim := { program := "ytclbmdblalgdjaa", sum := "49e17d6031065d8b518aa6d24c48cf37c66fe233dc8098058be44a54999536d6", func := "forebay/forebaylaw16.RecPuts", spec := "recPuts", inPlace := ["math/bits.Add64"], unfollowed := true, recurses := true, apart := false }
def RecPutsSaid : Prop := recPutsRow.holds Try.pinned (OpenSpec.ofChange recPutsSpec)

/-- ITS FALSE NEIGHBOUR: 'it returns false'. Refute it at one input. -/
def recPutsWrong : ChangeSpec := { name := "recPuts", fn := fun _ => fun
  | [d1, d2] => { results := [.lit (.bool false)], args := [d1, d2] }
  | _ => none }
def RecPutsWrongFalsely : Prop := recPutsRow.holds Try.pinned (OpenSpec.ofChange recPutsWrong)

/-- 'forebaylaw16.RecDecs': WHATEVER THE INPUT: true; the input reads as it did. -/
def recDecsSpec : ChangeSpec := { name := "recDecs", fn := fun _ => fun
  | [d1, d2] => { results := [.lit (.bool true)], args := [d1, d2] }
  | _ => none }
def recDecsRow : OpenClaim := { program := "ytclbmdblalgdjaa", sum := "49e17d6031065d8b518aa6d24c48cf37c66fe233dc8098058be44a54999536d6", func := "forebay/forebaylaw16.RecDecs", spec := "recDecs", inPlace := ["math/bits.Add64"], unfollowed := true, recurses := true, apart := false }
def RecDecsSaid : Prop := recDecsRow.holds Try.pinned (OpenSpec.ofChange recDecsSpec)

/-- ITS FALSE NEIGHBOUR: 'it returns false'. Refute it at one input. -/
def recDecsWrong : ChangeSpec := { name := "recDecs", fn := fun _ => fun
  | [d1, d2] => { results := [.lit (.bool false)], args := [d1, d2] }
  | _ => none }
def RecDecsWrongFalsely : Prop := recDecsRow.holds Try.pinned (OpenSpec.ofChange recDecsWrong)

/-- 'forebaylaw16.RecBack': WHATEVER THE INPUT: true; the input reads as it did. -/
def recBackSpec : ChangeSpec := { name := "recBack", fn := fun _ => fun
  | [d1, d2, d3] => { results := [.lit (.bool true)], args := [d1, d2, d3] }
  | _ => none }
def recBackRow : OpenClaim := { program := "ytclbmdblalgdjaa", sum := "49e17d6031065d8b518aa6d24c48cf37c66fe233dc8098058be44a54999536d6", func := "forebay/forebaylaw16.RecBack", spec := "recBack", inPlace := ["math/bits.Add64"], unfollowed := true, recurses := true, apart := false }
def RecBackSaid : Prop := recBackRow.holds Try.pinned (OpenSpec.ofChange recBackSpec)

/-- ITS FALSE NEIGHBOUR: 'it returns false'. Refute it at one input. -/
def recBackWrong : ChangeSpec := { name := "recBack", fn := fun _ => fun
  | [d1, d2, d3] => { results := [.lit (.bool false)], args := [d1, d2, d3] }
  | _ => none }
def RecBackWrongFalsely : Prop := recBackRow.holds Try.pinned (OpenSpec.ofChange recBackWrong)

/-- 'forebaylaw16.RecOnly': WHATEVER THE INPUT: true; the input reads as it did. -/
def recOnlySpec : ChangeSpec := { name := "recOnly", fn := fun _ => fun
  | [d1, d2] => { results := [.lit (.bool true)], args := [d1, d2] }
  | _ => none }
def recOnlyRow : OpenClaim := { program := "ytclbmdblalgdjaa", sum := "49e17d6031065d8b518aa6d24c48cf37c66fe233dc8098058be44a54999536d6", func := "forebay/forebaylaw16.RecOnly", spec := "recOnly", inPlace := ["math/bits.Add64"], unfollowed := true, recurses := true, apart := false }
def RecOnlySaid : Prop := recOnlyRow.holds Try.pinned (OpenSpec.ofChange recOnlySpec)

/-- ITS FALSE NEIGHBOUR: 'it returns false'. Refute it at one input. -/
def recOnlyWrong : ChangeSpec := { name := "recOnly", fn := fun _ => fun
  | [d1, d2] => { results := [.lit (.bool false)], args := [d1, d2] }
  | _ => none }
def RecOnlyWrongFalsely : Prop := recOnlyRow.holds Try.pinned (OpenSpec.ofChange recOnlyWrong)

/-- 'forebaylaw19.ChunkEncodes': WHATEVER THE INPUT: true; the input reads as it did. -/
def chunkEncodesSpec : ChangeSpec := { name := "chunkEncodes", fn := fun _ => fun
  | [d1, d2] => { results := [.lit (.bool true)], args := [d1, d2] }
  | _ => none }
def chunkEncodesRow : OpenClaim := { program := "ytclbmdblalgdjaa", sum := "49e17d6031065d8b518aa6d24c48cf37c66fe233dc8098058be44a54999536d6", func := "forebay/forebaylaw19.ChunkEncodes", spec := "chunkEncodes", inPlace := ["math/bits.Add64"], unfollowed := true, recurses := true, apart := false }
def ChunkEncodesSaid : Prop := chunkEncodesRow.holds Try.pinned (OpenSpec.ofChange chunkEncodesSpec)

/-- ITS FALSE NEIGHBOUR: 'it returns false'. Refute it at one input. -/
def chunkEncodesWrong : ChangeSpec := { name := "chunkEncodes", fn := fun _ => fun
  | [d1, d2] => { results := [.lit (.bool false)], args := [d1, d2] }
  | _ => none }
def ChunkEncodesWrongFalsely : Prop := chunkEncodesRow.holds Try.pinned (OpenSpec.ofChange chunkEncodesWrong)

/- THE SECOND FORM. 'bulk': how many values and letters a reading holds, each counted each time it is reached (what is shared counts as often as it is met; a slice's spare places count too). A statement '..UptoSaid' is the law's where the arguments, and the package variables that the reading takes, are together of bulk at most 1048576: NARROWER than '..Said'. Prove '..Said' where nothing that the law and all that it calls make is longer than what came in: it says more and counts as full. Else prove '..UptoSaid'. A law counts once. -/
mutual
def uptoBulk {H : Type} : DataW H → Nat
  | .lit (.string bytes) => bytes.length + 1
  | .lit _ => 1
  | .nil => 1
  | .ptr d => uptoBulk d + 1
  | .slice elems spare => uptoBulkAll elems + uptoBulkAll spare + 1
  | .agg parts => uptoBulkAll parts + 1
  | .iface _ d => uptoBulk d + 1
  | .map entries => uptoBulkEntries entries + 1
  | .held _ => 1
def uptoBulkAll {H : Type} : List (DataW H) → Nat
  | [] => 0
  | d :: r => uptoBulk d + uptoBulkAll r
def uptoBulkEntries {H : Type} : List (Lit × DataW H) → Nat
  | [] => 0
  | x :: r => uptoBulkEntry x + uptoBulkEntries r
def uptoBulkEntry {H : Type} : Lit × DataW H → Nat
  | (.string bytes, d) => bytes.length + uptoBulk d + 1
  | (_, d) => uptoBulk d + 1
 end
def uptoSmall : (H : Type) → List (DataW H) → Bool := fun _ ds => decide (uptoBulkAll ds ≤ 1048576)
def OpenSpec.upto (s : _root_.Go.ChangeSpec) : _root_.Go.OpenSpec := { _root_.Go.OpenSpec.ofChange s with cond := some uptoSmall }

/-- 'forebaylaw16.RecPuts', WHERE WHAT IT READS IS OF BULK AT MOST 1048576: true; the input reads as it did. -/
def recPutsUptoRow : OpenClaim := { program := "ytclbmdblalgdjaa", sum := "49e17d6031065d8b518aa6d24c48cf37c66fe233dc8098058be44a54999536d6", func := "forebay/forebaylaw16.RecPuts", spec := "recPuts", inPlace := ["math/bits.Add64"], unfollowed := true, recurses := true, apart := false, narrowed := true }
def RecPutsUptoSaid : Prop := recPutsUptoRow.holds Try.pinned (OpenSpec.upto recPutsSpec)

/-- 'forebaylaw16.RecDecs', WHERE WHAT IT READS IS OF BULK AT MOST 1048576: true; the input reads as it did. -/
def recDecsUptoRow : OpenClaim := { program := "ytclbmdblalgdjaa", sum := "49e17d6031065d8b518aa6d24c48cf37c66fe233dc8098058be44a54999536d6", func := "forebay/forebaylaw16.RecDecs", spec := "recDecs", inPlace := ["math/bits.Add64"], unfollowed := true, recurses := true, apart := false, narrowed := true }
def RecDecsUptoSaid : Prop := recDecsUptoRow.holds Try.pinned (OpenSpec.upto recDecsSpec)

/-- 'forebaylaw16.RecBack', WHERE WHAT IT READS IS OF BULK AT MOST 1048576: true; the input reads as it did. -/
def recBackUptoRow : OpenClaim := { program := "ytclbmdblalgdjaa", sum := "49e17d6031065d8b518aa6d24c48cf37c66fe233dc8098058be44a54999536d6", func := "forebay/forebaylaw16.RecBack", spec := "recBack", inPlace := ["math/bits.Add64"], unfollowed := true, recurses := true, apart := false, narrowed := true }
def RecBackUptoSaid : Prop := recBackUptoRow.holds Try.pinned (OpenSpec.upto recBackSpec)

/-- 'forebaylaw16.RecOnly', WHERE WHAT IT READS IS OF BULK AT MOST 1048576: true; the input reads as it did. -/
def recOnlyUptoRow : OpenClaim := { program := "ytclbmdblalgdjaa", sum := "49e17d6031065d8b518aa6d24c48cf37c66fe233dc8098058be44a54999536d6", func := "forebay/forebaylaw16.RecOnly", spec := "recOnly", inPlace := ["math/bits.Add64"], unfollowed := true, recurses := true, apart := false, narrowed := true }
def RecOnlyUptoSaid : Prop := recOnlyUptoRow.holds Try.pinned (OpenSpec.upto recOnlySpec)

/-- 'forebaylaw19.ChunkEncodes', WHERE WHAT IT READS IS OF BULK AT MOST 1048576: true; the input reads as it did. -/
def chunkEncodesUptoRow : OpenClaim := { program := "ytclbmdblalgdjaa", sum := "49e17d6031065d8b518aa6d24c48cf37c66fe233dc8098058be44a54999536d6", func := "forebay/forebaylaw19.ChunkEncodes", spec := "chunkEncodes", inPlace := ["math/bits.Add64"], unfollowed := true, recurses := true, apart := false, narrowed := true }
def ChunkEncodesUptoSaid : Prop := chunkEncodesUptoRow.holds Try.pinned (OpenSpec.upto chunkEncodesSpec)

end Rows
end Go.Proofs.Ytclbmdblalgdjaa
