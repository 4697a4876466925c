/-
  No cell of these rows narrows 'for every input' (looked for: loops, veiled, ifaces, maps, wideKeys, modest, calm, conditions, laid).
  DERIVED. THE GIVEN ROWS OF THIS SEAT. 12 by the template 'for every input the law returns true; each argument reads behind the call as it read before'; 0 by the template 'total and deterministic' (their statements: YtmbfjaogimkncaaTotals.lean).
  GIVEN WITH THE SEED: the statements are not yours to turn. If you find one false, say at which input.
  Laid BY PROGRAM, IN A SANDBOX (cutbox-rows.mjs): the forced cells as the released guide's own fill.sh prints them over the translation d81bcc3ffa3d4733… (all of the seat's roots in one cut). By AI agents, Wed Nov 11 2026. No macro, syntax, notation, axiom, sorry.
-/
import Derived.Test.YtmbfjaogimkncaaChecked
import GoSem.Claim
import GoSem.ClaimJoined
import GoSem.ClaimMapViews
import Derived.JoinedTies
import Derived.KernelRfl
namespace Go.Proofs.Ytmbfjaogimkncaa
/- THE CELL 'sum', in the pinned program and in every row, IS THE sha256 OF THE DUMP (.gsa) THAT YtmbfjaogimkncaaProg.lean LOADS. Nothing in Lean hashes anything: it is a label: what it is worth is what the hold of that sum in a sandbox is worth. -/
noncomputable def Try.pinned : Pinned := { name := "ytmbfjaogimkncaa", sum := "d81bcc3ffa3d473371fdc197948db8160f6b41b0cae7c427a417a1550b6ac99d", checked := Try.checked }
namespace Rows
def none {H : Type} : Left H := { results := [], args := [] }

/-- 'forebaylaw19.ChunkFeeds': WHATEVER THE INPUT: true; the input reads as it did. -/
def chunkFeedsSpec : ChangeSpec := { name := "chunkFeeds", fn := fun _ => fun
  | [d1, d2, d3] => { results := [.lit (.bool true)], args := [d1, d2, d3] }
  | _ => none }
def chunkFeedsRow : OpenClaim := { program := "ytmbfjaogimkncaa", sum := "d81bcc3ffa3d473371fdc197948db8160f6b41b0cae7c427a417a1550b6ac99d", func := "forebay/forebaylaw19.ChunkFeeds", spec := "chunkFeeds", unfollowed := true, recurses := true, apart := false }
def ChunkFeedsSaid : Prop := chunkFeedsRow.holds Try.pinned (OpenSpec.ofChange chunkFeedsSpec)

/-- ITS FALSE NEIGHBOUR: 'it returns false'. Refute it at one input. -/
def chunkFeedsWrong : ChangeSpec := { name := "chunkFeeds", fn := fun _ => fun
  | [d1, d2, d3] => { results := [.lit (.bool false)], args := [d1, d2, d3] }
  | _ => none }
def ChunkFeedsWrongFalsely : Prop := chunkFeedsRow.holds Try.pinned (OpenSpec.ofChange chunkFeedsWrong)

/-- 'forebaylaw19.ChunkCuts': WHATEVER THE INPUT: true; the input reads as it did. -/
def chunkCutsSpec : ChangeSpec := { name := "chunkCuts", fn := fun _ => fun
  | [d1, d2, d3] => { results := [.lit (.bool true)], args := [d1, d2, d3] }
  | _ => none }
def chunkCutsRow : OpenClaim := { program := "ytmbfjaogimkncaa", sum := "d81bcc3ffa3d473371fdc197948db8160f6b41b0cae7c427a417a1550b6ac99d", func := "forebay/forebaylaw19.ChunkCuts", spec := "chunkCuts", unfollowed := true, recurses := true, apart := false }
def ChunkCutsSaid : Prop := chunkCutsRow.holds Try.pinned (OpenSpec.ofChange chunkCutsSpec)

/-- ITS FALSE NEIGHBOUR: 'it returns false'. Refute it at one input. -/
def chunkCutsWrong : ChangeSpec := { name := "chunkCuts", fn := fun _ => fun
  | [d1, d2, d3] => { results := [.lit (.bool false)], args := [d1, d2, d3] }
  | _ => none }
def ChunkCutsWrongFalsely : Prop := chunkCutsRow.holds Try.pinned (OpenSpec.ofChange chunkCutsWrong)

/-- 'forebaylaw19.ChunkCovers': WHATEVER THE INPUT: true; the input reads as it did. -/
def chunkCoversSpec : ChangeSpec := { name := "chunkCovers", fn := fun _ => fun
  | [d1, d2, d3] => { results := [.lit (.bool true)], args := [d1, d2, d3] }
  | _ => none }
def chunkCoversRow : OpenClaim := { program := "ytmbfjaogimkncaa", sum := "d81bcc3ffa3d473371fdc197948db8160f6b41b0cae7c427a417a1550b6ac99d", func := "forebay/forebaylaw19.ChunkCovers", spec := "chunkCovers", unfollowed := true, recurses := true, apart := false }
def ChunkCoversSaid : Prop := chunkCoversRow.holds Try.pinned (OpenSpec.ofChange chunkCoversSpec)

/-- ITS FALSE NEIGHBOUR: 'it returns false'. Refute it at one input. -/
def chunkCoversWrong : ChangeSpec := { name := "chunkCovers", fn := fun _ => fun
  | [d1, d2, d3] => { results := [.lit (.bool false)], args := [d1, d2, d3] }
  | _ => none }
def ChunkCoversWrongFalsely : Prop := chunkCoversRow.holds Try.pinned (OpenSpec.ofChange chunkCoversWrong)

/-- 'forebaylaw19.ChunkStops': WHATEVER THE INPUT: true; the input reads as it did. -/
def chunkStopsSpec : ChangeSpec := { name := "chunkStops", fn := fun _ => fun
  | [d1, d2, d3] => { results := [.lit (.bool true)], args := [d1, d2, d3] }
  | _ => none }
def chunkStopsRow : OpenClaim := { program := "ytmbfjaogimkncaa", sum := "d81bcc3ffa3d473371fdc197948db8160f6b41b0cae7c427a417a1550b6ac99d", func := "forebay/forebaylaw19.ChunkStops", spec := "chunkStops", unfollowed := true, recurses := true, apart := false }
def ChunkStopsSaid : Prop := chunkStopsRow.holds Try.pinned (OpenSpec.ofChange chunkStopsSpec)

/-- ITS FALSE NEIGHBOUR: 'it returns false'. Refute it at one input. -/
def chunkStopsWrong : ChangeSpec := { name := "chunkStops", fn := fun _ => fun
  | [d1, d2, d3] => { results := [.lit (.bool false)], args := [d1, d2, d3] }
  | _ => none }
def ChunkStopsWrongFalsely : Prop := chunkStopsRow.holds Try.pinned (OpenSpec.ofChange chunkStopsWrong)

/-- 'forebaylaw15.DictFull': WHATEVER THE INPUT: true; the input reads as it did. -/
def dictFullSpec : ChangeSpec := { name := "dictFull", fn := fun _ => fun
  | [d1, d2] => { results := [.lit (.bool true)], args := [d1, d2] }
  | _ => none }
def dictFullRow : OpenClaim := { program := "ytmbfjaogimkncaa", sum := "d81bcc3ffa3d473371fdc197948db8160f6b41b0cae7c427a417a1550b6ac99d", func := "forebay/forebaylaw15.DictFull", spec := "dictFull", unfollowed := true, recurses := true, apart := false }
def DictFullSaid : Prop := dictFullRow.holds Try.pinned (OpenSpec.ofChange dictFullSpec)

/-- ITS FALSE NEIGHBOUR: 'it returns false'. Refute it at one input. -/
def dictFullWrong : ChangeSpec := { name := "dictFull", fn := fun _ => fun
  | [d1, d2] => { results := [.lit (.bool false)], args := [d1, d2] }
  | _ => none }
def DictFullWrongFalsely : Prop := dictFullRow.holds Try.pinned (OpenSpec.ofChange dictFullWrong)

/-- 'forebaylaw15.DictGets': WHATEVER THE INPUT: true; the input reads as it did. -/
def dictGetsSpec : ChangeSpec := { name := "dictGets", fn := fun _ => fun
  | [d1, d2, d3] => { results := [.lit (.bool true)], args := [d1, d2, d3] }
  | _ => none }
def dictGetsRow : OpenClaim := { program := "ytmbfjaogimkncaa", sum := "d81bcc3ffa3d473371fdc197948db8160f6b41b0cae7c427a417a1550b6ac99d", func := "forebay/forebaylaw15.DictGets", spec := "dictGets", unfollowed := true, recurses := true, apart := false }
def DictGetsSaid : Prop := dictGetsRow.holds Try.pinned (OpenSpec.ofChange dictGetsSpec)

/-- ITS FALSE NEIGHBOUR: 'it returns false'. Refute it at one input. -/
def dictGetsWrong : ChangeSpec := { name := "dictGets", fn := fun _ => fun
  | [d1, d2, d3] => { results := [.lit (.bool false)], args := [d1, d2, d3] }
  | _ => none }
def DictGetsWrongFalsely : Prop := dictGetsRow.holds Try.pinned (OpenSpec.ofChange dictGetsWrong)

/-- 'forebaylaw15.DictOnce': WHATEVER THE INPUT: true; the input reads as it did. -/
def dictOnceSpec : ChangeSpec := { name := "dictOnce", fn := fun _ => fun
  | [d] => { results := [.lit (.bool true)], args := [d] }
  | _ => none }
def dictOnceRow : OpenClaim := { program := "ytmbfjaogimkncaa", sum := "d81bcc3ffa3d473371fdc197948db8160f6b41b0cae7c427a417a1550b6ac99d", func := "forebay/forebaylaw15.DictOnce", spec := "dictOnce", unfollowed := true, recurses := true, apart := false }
def DictOnceSaid : Prop := dictOnceRow.holds Try.pinned (OpenSpec.ofChange dictOnceSpec)

/-- ITS FALSE NEIGHBOUR: 'it returns false'. Refute it at one input. -/
def dictOnceWrong : ChangeSpec := { name := "dictOnce", fn := fun _ => fun
  | [d] => { results := [.lit (.bool false)], args := [d] }
  | _ => none }
def DictOnceWrongFalsely : Prop := dictOnceRow.holds Try.pinned (OpenSpec.ofChange dictOnceWrong)

/-- 'forebaylaw15.DictPuts': WHATEVER THE INPUT: true; the input reads as it did. -/
def dictPutsSpec : ChangeSpec := { name := "dictPuts", fn := fun _ => fun
  | [d] => { results := [.lit (.bool true)], args := [d] }
  | _ => none }
def dictPutsRow : OpenClaim := { program := "ytmbfjaogimkncaa", sum := "d81bcc3ffa3d473371fdc197948db8160f6b41b0cae7c427a417a1550b6ac99d", func := "forebay/forebaylaw15.DictPuts", spec := "dictPuts", unfollowed := true, recurses := true, apart := false }
def DictPutsSaid : Prop := dictPutsRow.holds Try.pinned (OpenSpec.ofChange dictPutsSpec)

/-- ITS FALSE NEIGHBOUR: 'it returns false'. Refute it at one input. -/
def dictPutsWrong : ChangeSpec := { name := "dictPuts", fn := fun _ => fun
  | [d] => { results := [.lit (.bool false)], args := [d] }
  | _ => none }
def DictPutsWrongFalsely : Prop := dictPutsRow.holds Try.pinned (OpenSpec.ofChange dictPutsWrong)

/-- 'forebaylaw15.DictBack': WHATEVER THE INPUT: true; the input reads as it did. -/
def dictBackSpec : ChangeSpec := { name := "dictBack", fn := fun _ => fun
  | [d] => { results := [.lit (.bool true)], args := [d] }
  | _ => none }
def dictBackRow : OpenClaim := { program := "ytmbfjaogimkncaa", sum := "d81bcc3ffa3d473371fdc197948db8160f6b41b0cae7c427a417a1550b6ac99d", func := "forebay/forebaylaw15.DictBack", spec := "dictBack", unfollowed := true, recurses := true, apart := false }
def DictBackSaid : Prop := dictBackRow.holds Try.pinned (OpenSpec.ofChange dictBackSpec)

/-- ITS FALSE NEIGHBOUR: 'it returns false'. Refute it at one input. -/
def dictBackWrong : ChangeSpec := { name := "dictBack", fn := fun _ => fun
  | [d] => { results := [.lit (.bool false)], args := [d] }
  | _ => none }
def DictBackWrongFalsely : Prop := dictBackRow.holds Try.pinned (OpenSpec.ofChange dictBackWrong)

/-- 'forebaylaw15.DictExact': WHATEVER THE INPUT: true; the input reads as it did. -/
def dictExactSpec : ChangeSpec := { name := "dictExact", fn := fun _ => fun
  | [d1, d2] => { results := [.lit (.bool true)], args := [d1, d2] }
  | _ => none }
def dictExactRow : OpenClaim := { program := "ytmbfjaogimkncaa", sum := "d81bcc3ffa3d473371fdc197948db8160f6b41b0cae7c427a417a1550b6ac99d", func := "forebay/forebaylaw15.DictExact", spec := "dictExact", unfollowed := true, recurses := true, apart := false }
def DictExactSaid : Prop := dictExactRow.holds Try.pinned (OpenSpec.ofChange dictExactSpec)

/-- ITS FALSE NEIGHBOUR: 'it returns false'. Refute it at one input. -/
def dictExactWrong : ChangeSpec := { name := "dictExact", fn := fun _ => fun
  | [d1, d2] => { results := [.lit (.bool false)], args := [d1, d2] }
  | _ => none }
def DictExactWrongFalsely : Prop := dictExactRow.holds Try.pinned (OpenSpec.ofChange dictExactWrong)

/-- 'forebaylaw15.DictOwn': WHATEVER THE INPUT: true; the input reads as it did. -/
def dictOwnSpec : ChangeSpec := { name := "dictOwn", fn := fun _ => fun
  | [d1, d2] => { results := [.lit (.bool true)], args := [d1, d2] }
  | _ => none }
def dictOwnRow : OpenClaim := { program := "ytmbfjaogimkncaa", sum := "d81bcc3ffa3d473371fdc197948db8160f6b41b0cae7c427a417a1550b6ac99d", func := "forebay/forebaylaw15.DictOwn", spec := "dictOwn", unfollowed := true, recurses := true, apart := false }
def DictOwnSaid : Prop := dictOwnRow.holds Try.pinned (OpenSpec.ofChange dictOwnSpec)

/-- ITS FALSE NEIGHBOUR: 'it returns false'. Refute it at one input. -/
def dictOwnWrong : ChangeSpec := { name := "dictOwn", fn := fun _ => fun
  | [d1, d2] => { results := [.lit (.bool false)], args := [d1, d2] }
  | _ => none }
def DictOwnWrongFalsely : Prop := dictOwnRow.holds Try.pinned (OpenSpec.ofChange dictOwnWrong)

/-- 'forebaylaw19.ChunkEncodes': WHATEVER THE INPUT: true; the input reads as it did. -/
def chunkEncodesSpec : ChangeSpec := { name := "chunkEncodes", fn := fun _ => fun
  | [d1, d2] => { results := [.lit (.bool true)], args := [d1, d2] }
  | _ => none }
def chunkEncodesRow : OpenClaim := { program := "ytmbfjaogimkncaa", sum := "d81bcc3ffa3d473371fdc197948db8160f6b41b0cae7c427a417a1550b6ac99d", func := "forebay/forebaylaw19.ChunkEncodes", spec := "chunkEncodes", inPlace := ["math/bits.Add64"], unfollowed := true, recurses := true, apart := false }
def ChunkEncodesSaid : Prop := chunkEncodesRow.holds Try.pinned (OpenSpec.ofChange chunkEncodesSpec)

/-- ITS FALSE NEIGHBOUR: 'it returns false'. Refute it at one input. -/
def chunkEncodesWrong : ChangeSpec := { name := "chunkEncodes", fn := fun _ => fun
  | [d1, d2] => { results := [.lit (.bool false)], args := [d1, d2] }
  | _ => none }
def ChunkEncodesWrongFalsely : Prop := chunkEncodesRow.holds Try.pinned (OpenSpec.ofChange chunkEncodesWrong)

/- THE SECOND FORM. 'bulk': how many values and letters a reading holds, each counted each time it is reached (what is shared counts as often as it is met; a slice's spare places count too). A statement '..UptoSaid' is the law's where the arguments, and the package variables that the reading takes, are together of bulk at most 1048576: NARROWER than '..Said'. Prove '..Said' where nothing that the law and all that it calls make is longer than what came in: it says more and counts as full. Else prove '..UptoSaid'. A law counts once. -/
mutual
def uptoBulk {H : Type} : DataW H → Nat
  | .lit (.string bytes) => bytes.length + 1
  | .lit _ => 1
  | .nil => 1
  | .ptr d => uptoBulk d + 1
  | .slice elems spare => uptoBulkAll elems + uptoBulkAll spare + 1
  | .agg parts => uptoBulkAll parts + 1
  | .iface _ d => uptoBulk d + 1
  | .map entries => uptoBulkEntries entries + 1
  | .held _ => 1
def uptoBulkAll {H : Type} : List (DataW H) → Nat
  | [] => 0
  | d :: r => uptoBulk d + uptoBulkAll r
def uptoBulkEntries {H : Type} : List (Lit × DataW H) → Nat
  | [] => 0
  | x :: r => uptoBulkEntry x + uptoBulkEntries r
def uptoBulkEntry {H : Type} : Lit × DataW H → Nat
  | (.string bytes, d) => bytes.length + uptoBulk d + 1
  | (_, d) => uptoBulk d + 1
 end
def uptoSmall : (H : Type) → List (DataW H) → Bool := fun _ ds => decide (uptoBulkAll ds ≤ 1048576)
def OpenSpec.upto (s : _root_.Go.ChangeSpec) : _root_.Go.OpenSpec := { _root_.Go.OpenSpec.ofChange s with cond := some uptoSmall }

/-- 'forebaylaw19.ChunkFeeds', WHERE WHAT IT READS IS OF BULK AT MOST 1048576: true; the input reads as it did. -/
def chunkFeedsUptoRow : OpenClaim := { program := "ytmbfjaogimkncaa", sum := "d81bcc3ffa3d473371fdc197948db8160f6b41b0cae7c427a417a1550b6ac99d", func := "forebay/forebaylaw19.ChunkFeeds", spec := "chunkFeeds", unfollowed := true, recurses := true, apart := false, narrowed := true }
def ChunkFeedsUptoSaid : Prop := chunkFeedsUptoRow.holds Try.pinned (OpenSpec.upto chunkFeedsSpec)

/-- 'forebaylaw19.ChunkCuts', WHERE WHAT IT READS IS OF BULK AT MOST 1048576: true; the input reads as it did. -/
def chunkCutsUptoRow : OpenClaim := { program := "ytmbfjaogimkncaa", sum := "d81bcc3ffa3d473371fdc197948db8160f6b41b0cae7c427a417a1550b6ac99d", func := "forebay/forebaylaw19.ChunkCuts", spec := "chunkCuts", unfollowed := true, recurses := true, apart := false, narrowed := true }
def ChunkCutsUptoSaid : Prop := chunkCutsUptoRow.holds Try.pinned (OpenSpec.upto chunkCutsSpec)

/-- 'forebaylaw19.ChunkCovers', WHERE WHAT IT READS IS OF BULK AT MOST 1048576: true; the input reads as it did. -/
def chunkCoversUptoRow : OpenClaim := { program := "ytmbfjaogimkncaa", sum := "d81bcc3ffa3d473371fdc197948db8160f6b41b0cae7c427a417a1550b6ac99d", func := "forebay/forebaylaw19.ChunkCovers", spec := "chunkCovers", unfollowed := true, recurses := true, apart := false, narrowed := true }
def ChunkCoversUptoSaid : Prop := chunkCoversUptoRow.holds Try.pinned (OpenSpec.upto chunkCoversSpec)

/-- 'forebaylaw19.ChunkStops', WHERE WHAT IT READS IS OF BULK AT MOST 1048576: true; the input reads as it did. -/
def chunkStopsUptoRow : OpenClaim := { program := "ytmbfjaogimkncaa", sum := "d81bcc3ffa3d473371fdc197948db8160f6b41b0cae7c427a417a1550b6ac99d", func := "forebay/forebaylaw19.ChunkStops", spec := "chunkStops", unfollowed := true, recurses := true, apart := false, narrowed := true }
def ChunkStopsUptoSaid : Prop := chunkStopsUptoRow.holds Try.pinned (OpenSpec.upto chunkStopsSpec)

/-- 'forebaylaw15.DictFull', WHERE WHAT IT READS IS OF BULK AT MOST 1048576: true; the input reads as it did. -/
def dictFullUptoRow : OpenClaim := { program := "ytmbfjaogimkncaa", sum := "d81bcc3ffa3d473371fdc197948db8160f6b41b0cae7c427a417a1550b6ac99d", func := "forebay/forebaylaw15.DictFull", spec := "dictFull", unfollowed := true, recurses := true, apart := false, narrowed := true }
def DictFullUptoSaid : Prop := dictFullUptoRow.holds Try.pinned (OpenSpec.upto dictFullSpec)

/-- 'forebaylaw15.DictGets', WHERE WHAT IT READS IS OF BULK AT MOST 1048576: true; the input reads as it did. -/
def dictGetsUptoRow : OpenClaim := { program := "ytmbfjaogimkncaa", sum := "d81bcc3ffa3d473371fdc197948db8160f6b41b0cae7c427a417a1550b6ac99d", func := "forebay/forebaylaw15.DictGets", spec := "dictGets", unfollowed := true, recurses := true, apart := false, narrowed := true }
def DictGetsUptoSaid : Prop := dictGetsUptoRow.holds Try.pinned (OpenSpec.upto dictGetsSpec)

/-- 'forebaylaw15.DictOnce', WHERE WHAT IT READS IS OF BULK AT MOST 1048576: true; the input reads as it did. -/
def dictOnceUptoRow : OpenClaim := { program := "ytmbfjaogimkncaa", sum := "d81bcc3ffa3d473371fdc197948db8160f6b41b0cae7c427a417a1550b6ac99d", func := "forebay/forebaylaw15.DictOnce", spec := "dictOnce", unfollowed := true, recurses := true, apart := false, narrowed := true }
def DictOnceUptoSaid : Prop := dictOnceUptoRow.holds Try.pinned (OpenSpec.upto dictOnceSpec)

/-- 'forebaylaw15.DictPuts', WHERE WHAT IT READS IS OF BULK AT MOST 1048576: true; the input reads as it did. -/
def dictPutsUptoRow : OpenClaim := { program := "ytmbfjaogimkncaa", sum := "d81bcc3ffa3d473371fdc197948db8160f6b41b0cae7c427a417a1550b6ac99d", func := "forebay/forebaylaw15.DictPuts", spec := "dictPuts", unfollowed := true, recurses := true, apart := false, narrowed := true }
def DictPutsUptoSaid : Prop := dictPutsUptoRow.holds Try.pinned (OpenSpec.upto dictPutsSpec)

/-- 'forebaylaw15.DictBack', WHERE WHAT IT READS IS OF BULK AT MOST 1048576: true; the input reads as it did. -/
def dictBackUptoRow : OpenClaim := { program := "ytmbfjaogimkncaa", sum := "d81bcc3ffa3d473371fdc197948db8160f6b41b0cae7c427a417a1550b6ac99d", func := "forebay/forebaylaw15.DictBack", spec := "dictBack", unfollowed := true, recurses := true, apart := false, narrowed := true }
def DictBackUptoSaid : Prop := dictBackUptoRow.holds Try.pinned (OpenSpec.upto dictBackSpec)

/-- 'forebaylaw15.DictExact', WHERE WHAT IT READS IS OF BULK AT MOST 1048576: true; the input reads as it did. -/
def dictExactUptoRow : OpenClaim := { program := "ytmbfjaogimkncaa", sum := "d81bcc3ffa3d473371fdc197948db8160f6b41b0cae7c427a417a1550b6ac99d", func := "forebay/forebaylaw15.DictExact", spec := "dictExact", unfollowed := true, recurses := true, apart := false, narrowed := true }
def DictExactUptoSaid : Prop := dictExactUptoRow.holds Try.pinned (OpenSpec.upto dictExactSpec)

/-- 'forebaylaw15.DictOwn', WHERE WHAT IT READS IS OF BULK AT MOST 1048576: true; the input reads as it did. -/
def dictOwnUptoRow : OpenClaim := { program := "ytmbfjaogimkncaa", sum := "d81bcc3ffa3d473371fdc197948db8160f6b41b0cae7c427a417a1550b6ac99d", func := "forebay/forebaylaw15.DictOwn", spec := "dictOwn", unfollowed := true, recurses := true, apart := false, narrowed := true }
def DictOwnUptoSaid : Prop := dictOwnUptoRow.holds Try.pinned (OpenSpec.upto dictOwnSpec)

/-- 'forebaylaw19.ChunkEncodes', WHERE WHAT IT READS IS OF BULK AT MOST 1048576: true; the input reads as it did. -/
def chunkEncodesUptoRow : OpenClaim := { program := "ytmbfjaogimkncaa", sum := "d81bcc3ffa3d473371fdc197948db8160f6b41b0cae7c427a417a1550b6ac99d", func := "forebay/forebaylaw19.ChunkEncodes", spec := "chunkEncodes", inPlace := ["math/bits.Add64"], unfollowed := true, recurses := true, apart := false, narrowed := true }
def ChunkEncodesUptoSaid : Prop := chunkEncodesUptoRow.holds Try.pinned (OpenSpec.upto chunkEncodesSpec)

end Rows
end Go.Proofs.Ytmbfjaogimkncaa
