/-
  No cell of these rows narrows 'for every input' (looked for: loops, veiled, ifaces, maps, wideKeys, modest, calm, conditions, laid).
  DERIVED. THE GIVEN ROWS OF THIS SEAT. 12 by the template 'for every input the law returns true; each argument reads behind the call as it read before'; 0 by the template 'total and deterministic' (their statements: YtgaboaeeodiadaaTotals.lean).
  GIVEN WITH THE SEED: the statements are not yours to turn. If you find one false, say at which input.
  Laid BY PROGRAM, IN A SANDBOX (cutbox-rows.mjs): the forced cells as the released guide's own fill.sh prints them over the translation d5e26cc59282222b… (all of the seat's roots in one cut). By AI agents, Wed Nov 11 2026. No macro, syntax, notation, axiom, sorry.
-/
import Derived.Test.YtgaboaeeodiadaaChecked
import GoSem.Claim
import GoSem.ClaimJoined
import GoSem.ClaimMapViews
import Derived.JoinedTies
import Derived.KernelRfl
namespace Go.Proofs.Ytgaboaeeodiadaa
/- THE CELL 'sum', in the pinned program and in every row, IS THE sha256 OF THE DUMP (.gsa) THAT YtgaboaeeodiadaaProg.lean LOADS. Nothing in Lean hashes anything: it is a label: what it is worth is what the hold of that sum in a sandbox is worth. -/
noncomputable def Try.pinned : Pinned := { name := "ytgaboaeeodiadaa", sum := "d5e26cc59282222b4c2a21d5ddbb08eabd0ce45434abb85cdaecc28ec2bb0c24", checked := Try.checked }
namespace Rows
def none {H : Type} : Left H := { results := [], args := [] }

/-- 'forebaylaw02.VarintGets': WHATEVER THE INPUT: true; the input reads as it did. -/
def varintGetsSpec : ChangeSpec := { name := "varintGets", fn := fun _ => fun
  | [d] => { results := [.lit (.bool true)], args := [d] }
  | _ => none }
def varintGetsRow : OpenClaim := { program := "ytgaboaeeodiadaa", sum := "d5e26cc59282222b4c2a21d5ddbb08eabd0ce45434abb85cdaecc28ec2bb0c24", func := "forebay/forebaylaw02.VarintGets", spec := "varintGets", unfollowed := true, recurses := true, apart := false }
def VarintGetsSaid : Prop := varintGetsRow.holds Try.pinned (OpenSpec.ofChange varintGetsSpec)

/-- ITS FALSE NEIGHBOUR: 'it returns false'. Refute it at one input. -/
def varintGetsWrong : ChangeSpec := { name := "varintGets", fn := fun _ => fun
  | [d] => { results := [.lit (.bool false)], args := [d] }
  | _ => none }
def VarintGetsWrongFalsely : Prop := varintGetsRow.holds Try.pinned (OpenSpec.ofChange varintGetsWrong)

/-- 'forebaylaw02.VarintZigs': WHATEVER THE INPUT: true; the input reads as it did. -/
def varintZigsSpec : ChangeSpec := { name := "varintZigs", fn := fun _ => fun
  | [d1, d2] => { results := [.lit (.bool true)], args := [d1, d2] }
  | _ => none }
def varintZigsRow : OpenClaim := { program := "ytgaboaeeodiadaa", sum := "d5e26cc59282222b4c2a21d5ddbb08eabd0ce45434abb85cdaecc28ec2bb0c24", func := "forebay/forebaylaw02.VarintZigs", spec := "varintZigs", unfollowed := true, recurses := true, apart := false }
def VarintZigsSaid : Prop := varintZigsRow.holds Try.pinned (OpenSpec.ofChange varintZigsSpec)

/-- ITS FALSE NEIGHBOUR: 'it returns false'. Refute it at one input. -/
def varintZigsWrong : ChangeSpec := { name := "varintZigs", fn := fun _ => fun
  | [d1, d2] => { results := [.lit (.bool false)], args := [d1, d2] }
  | _ => none }
def VarintZigsWrongFalsely : Prop := varintZigsRow.holds Try.pinned (OpenSpec.ofChange varintZigsWrong)

/-- 'forebaylaw04.ClassBytes': WHATEVER THE INPUT: true; the input reads as it did. -/
def classBytesSpec : ChangeSpec := { name := "classBytes", fn := fun _ => fun
  | [d1, d2] => { results := [.lit (.bool true)], args := [d1, d2] }
  | _ => none }
def classBytesRow : OpenClaim := { program := "ytgaboaeeodiadaa", sum := "d5e26cc59282222b4c2a21d5ddbb08eabd0ce45434abb85cdaecc28ec2bb0c24", func := "forebay/forebaylaw04.ClassBytes", spec := "classBytes", apart := false }
def ClassBytesSaid : Prop := classBytesRow.holds Try.pinned (OpenSpec.ofChange classBytesSpec)

/-- ITS FALSE NEIGHBOUR: 'it returns false'. Refute it at one input. -/
def classBytesWrong : ChangeSpec := { name := "classBytes", fn := fun _ => fun
  | [d1, d2] => { results := [.lit (.bool false)], args := [d1, d2] }
  | _ => none }
def ClassBytesWrongFalsely : Prop := classBytesRow.holds Try.pinned (OpenSpec.ofChange classBytesWrong)

/-- 'forebaylaw04.ClassTexts': WHATEVER THE INPUT: true; the input reads as it did. -/
def classTextsSpec : ChangeSpec := { name := "classTexts", fn := fun _ => fun
  | [d1, d2, d3] => { results := [.lit (.bool true)], args := [d1, d2, d3] }
  | _ => none }
def classTextsRow : OpenClaim := { program := "ytgaboaeeodiadaa", sum := "d5e26cc59282222b4c2a21d5ddbb08eabd0ce45434abb85cdaecc28ec2bb0c24", func := "forebay/forebaylaw04.ClassTexts", spec := "classTexts", apart := false }
def ClassTextsSaid : Prop := classTextsRow.holds Try.pinned (OpenSpec.ofChange classTextsSpec)

/-- ITS FALSE NEIGHBOUR: 'it returns false'. Refute it at one input. -/
def classTextsWrong : ChangeSpec := { name := "classTexts", fn := fun _ => fun
  | [d1, d2, d3] => { results := [.lit (.bool false)], args := [d1, d2, d3] }
  | _ => none }
def ClassTextsWrongFalsely : Prop := classTextsRow.holds Try.pinned (OpenSpec.ofChange classTextsWrong)

/-- 'forebaylaw04.ClassNests': WHATEVER THE INPUT: true; the input reads as it did. -/
def classNestsSpec : ChangeSpec := { name := "classNests", fn := fun _ => fun
  | [d1, d2] => { results := [.lit (.bool true)], args := [d1, d2] }
  | _ => none }
def classNestsRow : OpenClaim := { program := "ytgaboaeeodiadaa", sum := "d5e26cc59282222b4c2a21d5ddbb08eabd0ce45434abb85cdaecc28ec2bb0c24", func := "forebay/forebaylaw04.ClassNests", spec := "classNests", apart := false }
def ClassNestsSaid : Prop := classNestsRow.holds Try.pinned (OpenSpec.ofChange classNestsSpec)

/-- ITS FALSE NEIGHBOUR: 'it returns false'. Refute it at one input. -/
def classNestsWrong : ChangeSpec := { name := "classNests", fn := fun _ => fun
  | [d1, d2] => { results := [.lit (.bool false)], args := [d1, d2] }
  | _ => none }
def ClassNestsWrongFalsely : Prop := classNestsRow.holds Try.pinned (OpenSpec.ofChange classNestsWrong)

/-- 'forebaylaw04.ClassParts': WHATEVER THE INPUT: true; the input reads as it did. -/
def classPartsSpec : ChangeSpec := { name := "classParts", fn := fun _ => fun
  | [d1, d2] => { results := [.lit (.bool true)], args := [d1, d2] }
  | _ => none }
def classPartsRow : OpenClaim := { program := "ytgaboaeeodiadaa", sum := "d5e26cc59282222b4c2a21d5ddbb08eabd0ce45434abb85cdaecc28ec2bb0c24", func := "forebay/forebaylaw04.ClassParts", spec := "classParts", apart := false }
def ClassPartsSaid : Prop := classPartsRow.holds Try.pinned (OpenSpec.ofChange classPartsSpec)

/-- ITS FALSE NEIGHBOUR: 'it returns false'. Refute it at one input. -/
def classPartsWrong : ChangeSpec := { name := "classParts", fn := fun _ => fun
  | [d1, d2] => { results := [.lit (.bool false)], args := [d1, d2] }
  | _ => none }
def ClassPartsWrongFalsely : Prop := classPartsRow.holds Try.pinned (OpenSpec.ofChange classPartsWrong)

/-- 'forebaylaw04.ClassBounds': WHATEVER THE INPUT: true; the input reads as it did. -/
def classBoundsSpec : ChangeSpec := { name := "classBounds", fn := fun _ => fun
  | [d1, d2, d3] => { results := [.lit (.bool true)], args := [d1, d2, d3] }
  | _ => none }
def classBoundsRow : OpenClaim := { program := "ytgaboaeeodiadaa", sum := "d5e26cc59282222b4c2a21d5ddbb08eabd0ce45434abb85cdaecc28ec2bb0c24", func := "forebay/forebaylaw04.ClassBounds", spec := "classBounds", apart := false }
def ClassBoundsSaid : Prop := classBoundsRow.holds Try.pinned (OpenSpec.ofChange classBoundsSpec)

/-- ITS FALSE NEIGHBOUR: 'it returns false'. Refute it at one input. -/
def classBoundsWrong : ChangeSpec := { name := "classBounds", fn := fun _ => fun
  | [d1, d2, d3] => { results := [.lit (.bool false)], args := [d1, d2, d3] }
  | _ => none }
def ClassBoundsWrongFalsely : Prop := classBoundsRow.holds Try.pinned (OpenSpec.ofChange classBoundsWrong)

/-- 'forebaylaw02.VarintPuts': WHATEVER THE INPUT: true; the input reads as it did. -/
def varintPutsSpec : ChangeSpec := { name := "varintPuts", fn := fun _ => fun
  | [d] => { results := [.lit (.bool true)], args := [d] }
  | _ => none }
def varintPutsRow : OpenClaim := { program := "ytgaboaeeodiadaa", sum := "d5e26cc59282222b4c2a21d5ddbb08eabd0ce45434abb85cdaecc28ec2bb0c24", func := "forebay/forebaylaw02.VarintPuts", spec := "varintPuts", unfollowed := true, recurses := true, apart := false }
def VarintPutsSaid : Prop := varintPutsRow.holds Try.pinned (OpenSpec.ofChange varintPutsSpec)

/-- ITS FALSE NEIGHBOUR: 'it returns false'. Refute it at one input. -/
def varintPutsWrong : ChangeSpec := { name := "varintPuts", fn := fun _ => fun
  | [d] => { results := [.lit (.bool false)], args := [d] }
  | _ => none }
def VarintPutsWrongFalsely : Prop := varintPutsRow.holds Try.pinned (OpenSpec.ofChange varintPutsWrong)

/-- 'forebaylaw02.VarintBack': WHATEVER THE INPUT: true; the input reads as it did. -/
def varintBackSpec : ChangeSpec := { name := "varintBack", fn := fun _ => fun
  | [d1, d2] => { results := [.lit (.bool true)], args := [d1, d2] }
  | _ => none }
def varintBackRow : OpenClaim := { program := "ytgaboaeeodiadaa", sum := "d5e26cc59282222b4c2a21d5ddbb08eabd0ce45434abb85cdaecc28ec2bb0c24", func := "forebay/forebaylaw02.VarintBack", spec := "varintBack", unfollowed := true, recurses := true, apart := false }
def VarintBackSaid : Prop := varintBackRow.holds Try.pinned (OpenSpec.ofChange varintBackSpec)

/-- ITS FALSE NEIGHBOUR: 'it returns false'. Refute it at one input. -/
def varintBackWrong : ChangeSpec := { name := "varintBack", fn := fun _ => fun
  | [d1, d2] => { results := [.lit (.bool false)], args := [d1, d2] }
  | _ => none }
def VarintBackWrongFalsely : Prop := varintBackRow.holds Try.pinned (OpenSpec.ofChange varintBackWrong)

/-- 'forebaylaw02.VarintGrows': WHATEVER THE INPUT: true; the input reads as it did. -/
def varintGrowsSpec : ChangeSpec := { name := "varintGrows", fn := fun _ => fun
  | [d1, d2] => { results := [.lit (.bool true)], args := [d1, d2] }
  | _ => none }
def varintGrowsRow : OpenClaim := { program := "ytgaboaeeodiadaa", sum := "d5e26cc59282222b4c2a21d5ddbb08eabd0ce45434abb85cdaecc28ec2bb0c24", func := "forebay/forebaylaw02.VarintGrows", spec := "varintGrows", unfollowed := true, recurses := true, apart := false }
def VarintGrowsSaid : Prop := varintGrowsRow.holds Try.pinned (OpenSpec.ofChange varintGrowsSpec)

/-- ITS FALSE NEIGHBOUR: 'it returns false'. Refute it at one input. -/
def varintGrowsWrong : ChangeSpec := { name := "varintGrows", fn := fun _ => fun
  | [d1, d2] => { results := [.lit (.bool false)], args := [d1, d2] }
  | _ => none }
def VarintGrowsWrongFalsely : Prop := varintGrowsRow.holds Try.pinned (OpenSpec.ofChange varintGrowsWrong)

/-- 'forebaylaw02.VarintReads': WHATEVER THE INPUT: true; the input reads as it did. -/
def varintReadsSpec : ChangeSpec := { name := "varintReads", fn := fun _ => fun
  | [d1, d2, d3] => { results := [.lit (.bool true)], args := [d1, d2, d3] }
  | _ => none }
def varintReadsRow : OpenClaim := { program := "ytgaboaeeodiadaa", sum := "d5e26cc59282222b4c2a21d5ddbb08eabd0ce45434abb85cdaecc28ec2bb0c24", func := "forebay/forebaylaw02.VarintReads", spec := "varintReads", unfollowed := true, recurses := true, apart := false }
def VarintReadsSaid : Prop := varintReadsRow.holds Try.pinned (OpenSpec.ofChange varintReadsSpec)

/-- ITS FALSE NEIGHBOUR: 'it returns false'. Refute it at one input. -/
def varintReadsWrong : ChangeSpec := { name := "varintReads", fn := fun _ => fun
  | [d1, d2, d3] => { results := [.lit (.bool false)], args := [d1, d2, d3] }
  | _ => none }
def VarintReadsWrongFalsely : Prop := varintReadsRow.holds Try.pinned (OpenSpec.ofChange varintReadsWrong)

/-- 'forebaylaw02.VarintRows': WHATEVER THE INPUT: true; the input reads as it did. -/
def varintRowsSpec : ChangeSpec := { name := "varintRows", fn := fun _ => fun
  | [d1, d2] => { results := [.lit (.bool true)], args := [d1, d2] }
  | _ => none }
def varintRowsRow : OpenClaim := { program := "ytgaboaeeodiadaa", sum := "d5e26cc59282222b4c2a21d5ddbb08eabd0ce45434abb85cdaecc28ec2bb0c24", func := "forebay/forebaylaw02.VarintRows", spec := "varintRows", unfollowed := true, recurses := true, apart := false }
def VarintRowsSaid : Prop := varintRowsRow.holds Try.pinned (OpenSpec.ofChange varintRowsSpec)

/-- ITS FALSE NEIGHBOUR: 'it returns false'. Refute it at one input. -/
def varintRowsWrong : ChangeSpec := { name := "varintRows", fn := fun _ => fun
  | [d1, d2] => { results := [.lit (.bool false)], args := [d1, d2] }
  | _ => none }
def VarintRowsWrongFalsely : Prop := varintRowsRow.holds Try.pinned (OpenSpec.ofChange varintRowsWrong)

/- THE SECOND FORM. 'bulk': how many values and letters a reading holds, each counted each time it is reached (what is shared counts as often as it is met; a slice's spare places count too). A statement '..UptoSaid' is the law's where the arguments, and the package variables that the reading takes, are together of bulk at most 1048576: NARROWER than '..Said'. Prove '..Said' where nothing that the law and all that it calls make is longer than what came in: it says more and counts as full. Else prove '..UptoSaid'. A law counts once. -/
mutual
def uptoBulk {H : Type} : DataW H → Nat
  | .lit (.string bytes) => bytes.length + 1
  | .lit _ => 1
  | .nil => 1
  | .ptr d => uptoBulk d + 1
  | .slice elems spare => uptoBulkAll elems + uptoBulkAll spare + 1
  | .agg parts => uptoBulkAll parts + 1
  | .iface _ d => uptoBulk d + 1
  | .map entries => uptoBulkEntries entries + 1
  | .held _ => 1
def uptoBulkAll {H : Type} : List (DataW H) → Nat
  | [] => 0
  | d :: r => uptoBulk d + uptoBulkAll r
def uptoBulkEntries {H : Type} : List (Lit × DataW H) → Nat
  | [] => 0
  | x :: r => uptoBulkEntry x + uptoBulkEntries r
def uptoBulkEntry {H : Type} : Lit × DataW H → Nat
  | (.string bytes, d) => bytes.length + uptoBulk d + 1
  | (_, d) => uptoBulk d + 1
 end
def uptoSmall : (H : Type) → List (DataW H) → Bool := fun _ ds => decide (uptoBulkAll ds ≤ 1048576)
def OpenSpec.upto (s : _root_.Go.ChangeSpec) : _root_.Go.OpenSpec := { _root_.Go.OpenSpec.ofChange s with cond := some uptoSmall }

/-- 'forebaylaw02.VarintGets', WHERE WHAT IT READS IS OF BULK AT MOST 1048576: true; the input reads as it did. -/
def varintGetsUptoRow : OpenClaim := { program := "ytgaboaeeodiadaa", sum := "d5e26cc59282222b4c2a21d5ddbb08eabd0ce45434abb85cdaecc28ec2bb0c24", func := "forebay/forebaylaw02.VarintGets", spec := "varintGets", unfollowed := true, recurses := true, apart := false, narrowed := true }
def VarintGetsUptoSaid : Prop := varintGetsUptoRow.holds Try.pinned (OpenSpec.upto varintGetsSpec)

/-- 'forebaylaw02.VarintZigs', WHERE WHAT IT READS IS OF BULK AT MOST 1048576: true; the input reads as it did. -/
def varintZigsUptoRow : OpenClaim := { program := "ytgaboaeeodiadaa", sum := "d5e26cc59282222b4c2a21d5ddbb08eabd0ce45434abb85cdaecc28ec2bb0c24", func := "forebay/forebaylaw02.VarintZigs", spec := "varintZigs", unfollowed := true, recurses := true, apart := false, narrowed := true }
def VarintZigsUptoSaid : Prop := varintZigsUptoRow.holds Try.pinned (OpenSpec.upto varintZigsSpec)

/-- 'forebaylaw04.ClassBytes', WHERE WHAT IT READS IS OF BULK AT MOST 1048576: true; the input reads as it did. -/
def classBytesUptoRow : OpenClaim := { program := "ytgaboaeeodiadaa", sum := "d5e26cc59282222b4c2a21d5ddbb08eabd0ce45434abb85cdaecc28ec2bb0c24", func := "forebay/forebaylaw04.ClassBytes", spec := "classBytes", apart := false, narrowed := true }
def ClassBytesUptoSaid : Prop := classBytesUptoRow.holds Try.pinned (OpenSpec.upto classBytesSpec)

/-- 'forebaylaw04.ClassTexts', WHERE WHAT IT READS IS OF BULK AT MOST 1048576: true; the input reads as it did. -/
def classTextsUptoRow : OpenClaim := { program := "ytgaboaeeodiadaa", sum := "d5e26cc59282222b4c2a21d5ddbb08eabd0ce45434abb85cdaecc28ec2bb0c24", func := "forebay/forebaylaw04.ClassTexts", spec := "classTexts", apart := false, narrowed := true }
def ClassTextsUptoSaid : Prop := classTextsUptoRow.holds Try.pinned (OpenSpec.upto classTextsSpec)

/-- 'forebaylaw04.ClassNests', WHERE WHAT IT READS IS OF BULK AT MOST 1048576: true; the input reads as it did. -/
def classNestsUptoRow : OpenClaim := { program := "ytgaboaeeodiadaa", sum := "d5e26cc59282222b4c2a21d5ddbb08eabd0ce45434abb85cdaecc28ec2bb0c24", func := "forebay/forebaylaw04.ClassNests", spec := "classNests", apart := false, narrowed := true }
def ClassNestsUptoSaid : Prop := classNestsUptoRow.holds Try.pinned (OpenSpec.upto classNestsSpec)

/-- 'forebaylaw04.ClassParts', WHERE WHAT IT READS IS OF BULK AT MOST 1048576: true; the input reads as it did. -/
def classPartsUptoRow : OpenClaim := { program := "ytgaboaeeodiadaa", sum := "d5e26cc59282222b4c2a21d5ddbb08eabd0ce45434abb85cdaecc28ec2bb0c24", func := "forebay/forebaylaw04.ClassParts", spec := "classParts", apart := false, narrowed := true }
def ClassPartsUptoSaid : Prop := classPartsUptoRow.holds Try.pinned (OpenSpec.upto classPartsSpec)

/-- 'forebaylaw04.ClassBounds', WHERE WHAT IT READS IS OF BULK AT MOST 1048576: true; the input reads as it did. -/
def classBoundsUptoRow : OpenClaim := { program := "ytgaboaeeodiadaa", sum := "d5e26cc59282222b4c2a21d5ddbb08eabd0ce45434abb85cdaecc28ec2bb0c24", func := "forebay/forebaylaw04.ClassBounds", spec := "classBounds", apart := false, narrowed := true }
def ClassBoundsUptoSaid : Prop := classBoundsUptoRow.holds Try.pinned (OpenSpec.upto classBoundsSpec)

/-- 'forebaylaw02.VarintPuts', WHERE WHAT IT READS IS OF BULK AT MOST 1048576: true; the input reads as it did. -/
def varintPutsUptoRow : OpenClaim := { program := "ytgaboaeeodiadaa", sum := "d5e26cc59282222b4c2a21d5ddbb08eabd0ce45434abb85cdaecc28ec2bb0c24", func := "forebay/forebaylaw02.VarintPuts", spec := "varintPuts", unfollowed := true, recurses := true, apart := false, narrowed := true }
def VarintPutsUptoSaid : Prop := varintPutsUptoRow.holds Try.pinned (OpenSpec.upto varintPutsSpec)

/-- 'forebaylaw02.VarintBack', WHERE WHAT IT READS IS OF BULK AT MOST 1048576: true; the input reads as it did. -/
def varintBackUptoRow : OpenClaim := { program := "ytgaboaeeodiadaa", sum := "d5e26cc59282222b4c2a21d5ddbb08eabd0ce45434abb85cdaecc28ec2bb0c24", func := "forebay/forebaylaw02.VarintBack", spec := "varintBack", unfollowed := true, recurses := true, apart := false, narrowed := true }
def VarintBackUptoSaid : Prop := varintBackUptoRow.holds Try.pinned (OpenSpec.upto varintBackSpec)

/-- 'forebaylaw02.VarintGrows', WHERE WHAT IT READS IS OF BULK AT MOST 1048576: true; the input reads as it did. -/
def varintGrowsUptoRow : OpenClaim := { program := "ytgaboaeeodiadaa", sum := "d5e26cc59282222b4c2a21d5ddbb08eabd0ce45434abb85cdaecc28ec2bb0c24", func := "forebay/forebaylaw02.VarintGrows", spec := "varintGrows", unfollowed := true, recurses := true, apart := false, narrowed := true }
def VarintGrowsUptoSaid : Prop := varintGrowsUptoRow.holds Try.pinned (OpenSpec.upto varintGrowsSpec)

/-- 'forebaylaw02.VarintReads', WHERE WHAT IT READS IS OF BULK AT MOST 1048576: true; the input reads as it did. -/
def varintReadsUptoRow : OpenClaim := { program := "ytgaboaeeodiadaa", sum := "d5e26cc59282222b4c2a21d5ddbb08eabd0ce45434abb85cdaecc28ec2bb0c24", func := "forebay/forebaylaw02.VarintReads", spec := "varintReads", unfollowed := true, recurses := true, apart := false, narrowed := true }
def VarintReadsUptoSaid : Prop := varintReadsUptoRow.holds Try.pinned (OpenSpec.upto varintReadsSpec)

/-- 'forebaylaw02.VarintRows', WHERE WHAT IT READS IS OF BULK AT MOST 1048576: true; the input reads as it did. -/
def varintRowsUptoRow : OpenClaim := { program := "ytgaboaeeodiadaa", sum := "d5e26cc59282222b4c2a21d5ddbb08eabd0ce45434abb85cdaecc28ec2bb0c24", func := "forebay/forebaylaw02.VarintRows", spec := "varintRows", unfollowed := true, recurses := true, apart := false, narrowed := true }
def VarintRowsUptoSaid : Prop := varintRowsUptoRow.holds Try.pinned (OpenSpec.upto varintRowsSpec)

end Rows
end Go.Proofs.Ytgaboaeeodiadaa
