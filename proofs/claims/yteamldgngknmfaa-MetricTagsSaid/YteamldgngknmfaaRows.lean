/-
  No cell of these rows narrows 'for every input' (looked for: loops, veiled, ifaces, maps, wideKeys, modest, calm, conditions, laid).
  DERIVED. THE GIVEN ROWS OF THIS SEAT. 11 by the template 'for every input the law returns true; each argument reads behind the call as it read before'; 0 by the template 'total and deterministic' (their statements: YteamldgngknmfaaTotals.lean).
  GIVEN WITH THE SEED: the statements are not yours to turn. If you find one false, say at which input.
  Laid BY PROGRAM, IN A SANDBOX (cutbox-rows.mjs): the forced cells as the released guide's own fill.sh prints them over the translation 3964ca44461df397… (all of the seat's roots in one cut). By AI agents, Wed Nov 11 2026. No macro, syntax, notation, axiom, sorry.
-/
import Derived.Test.YteamldgngknmfaaChecked
import GoSem.Claim
import GoSem.ClaimJoined
import GoSem.ClaimMapViews
import Derived.JoinedTies
import Derived.KernelRfl
namespace Go.Proofs.Yteamldgngknmfaa
/- THE CELL 'sum', in the pinned program and in every row, IS THE sha256 OF THE DUMP (.gsa) THAT YteamldgngknmfaaProg.lean LOADS. Nothing in Lean hashes anything: it is a label: what it is worth is what the hold of that sum in a sandbox is worth. -/
noncomputable def Try.pinned : Pinned := { name := "yteamldgngknmfaa", sum := "3964ca44461df3973f6d6f273ff1b6f5584ee8767c0f90792818babd1dff3c6f", checked := Try.checked }
namespace Rows
def none {H : Type} : Left H := { results := [], args := [] }

/-- 'forebaylaw07.MetricChecks': WHATEVER THE INPUT: true; the input reads as it did. -/
def metricChecksSpec : ChangeSpec := { name := "metricChecks", fn := fun _ => fun
  | [d] => { results := [.lit (.bool true)], args := [d] }
  | _ => none }
def metricChecksRow : OpenClaim := { program := "yteamldgngknmfaa", sum := "3964ca44461df3973f6d6f273ff1b6f5584ee8767c0f90792818babd1dff3c6f", func := "forebay/forebaylaw07.MetricChecks", spec := "metricChecks", inPlace := ["math/bits.Add64"], unfollowed := true, recurses := true, apart := false }
def MetricChecksSaid : Prop := metricChecksRow.holds Try.pinned (OpenSpec.ofChange metricChecksSpec)

/-- ITS FALSE NEIGHBOUR: 'it returns false'. Refute it at one input. -/
def metricChecksWrong : ChangeSpec := { name := "metricChecks", fn := fun _ => fun
  | [d] => { results := [.lit (.bool false)], args := [d] }
  | _ => none }
def MetricChecksWrongFalsely : Prop := metricChecksRow.holds Try.pinned (OpenSpec.ofChange metricChecksWrong)

/-- 'forebaylaw07.MetricNormals': WHATEVER THE INPUT: true; the input reads as it did. -/
def metricNormalsSpec : ChangeSpec := { name := "metricNormals", fn := fun _ => fun
  | [d] => { results := [.lit (.bool true)], args := [d] }
  | _ => none }
def metricNormalsRow : OpenClaim := { program := "yteamldgngknmfaa", sum := "3964ca44461df3973f6d6f273ff1b6f5584ee8767c0f90792818babd1dff3c6f", func := "forebay/forebaylaw07.MetricNormals", spec := "metricNormals", inPlace := ["math/bits.Add64"], unfollowed := true, recurses := true, apart := false }
def MetricNormalsSaid : Prop := metricNormalsRow.holds Try.pinned (OpenSpec.ofChange metricNormalsSpec)

/-- ITS FALSE NEIGHBOUR: 'it returns false'. Refute it at one input. -/
def metricNormalsWrong : ChangeSpec := { name := "metricNormals", fn := fun _ => fun
  | [d] => { results := [.lit (.bool false)], args := [d] }
  | _ => none }
def MetricNormalsWrongFalsely : Prop := metricNormalsRow.holds Try.pinned (OpenSpec.ofChange metricNormalsWrong)

/-- 'forebaylaw07.MetricEquals': WHATEVER THE INPUT: true; the input reads as it did. -/
def metricEqualsSpec : ChangeSpec := { name := "metricEquals", fn := fun _ => fun
  | [d1, d2] => { results := [.lit (.bool true)], args := [d1, d2] }
  | _ => none }
def metricEqualsRow : OpenClaim := { program := "yteamldgngknmfaa", sum := "3964ca44461df3973f6d6f273ff1b6f5584ee8767c0f90792818babd1dff3c6f", func := "forebay/forebaylaw07.MetricEquals", spec := "metricEquals", inPlace := ["math/bits.Add64"], unfollowed := true, recurses := true, apart := false }
def MetricEqualsSaid : Prop := metricEqualsRow.holds Try.pinned (OpenSpec.ofChange metricEqualsSpec)

/-- ITS FALSE NEIGHBOUR: 'it returns false'. Refute it at one input. -/
def metricEqualsWrong : ChangeSpec := { name := "metricEquals", fn := fun _ => fun
  | [d1, d2] => { results := [.lit (.bool false)], args := [d1, d2] }
  | _ => none }
def MetricEqualsWrongFalsely : Prop := metricEqualsRow.holds Try.pinned (OpenSpec.ofChange metricEqualsWrong)

/-- 'forebaylaw07.MetricTags': WHATEVER THE INPUT: true; the input reads as it did. -/
def metricTagsSpec : ChangeSpec := { name := "metricTags", fn := fun _ => fun
  | [d1, d2, d3] => { results := [.lit (.bool true)], args := [d1, d2, d3] }
  | _ => none }
def metricTagsRow : OpenClaim := { program := "yteamldgngknmfaa", sum := "3964ca44461df3973f6d6f273ff1b6f5584ee8767c0f90792818babd1dff3c6f", func := "forebay/forebaylaw07.MetricTags", spec := "metricTags", inPlace := ["math/bits.Add64"], unfollowed := true, recurses := true, apart := false }
def MetricTagsSaid : Prop := metricTagsRow.holds Try.pinned (OpenSpec.ofChange metricTagsSpec)

/-- ITS FALSE NEIGHBOUR: 'it returns false'. Refute it at one input. -/
def metricTagsWrong : ChangeSpec := { name := "metricTags", fn := fun _ => fun
  | [d1, d2, d3] => { results := [.lit (.bool false)], args := [d1, d2, d3] }
  | _ => none }
def MetricTagsWrongFalsely : Prop := metricTagsRow.holds Try.pinned (OpenSpec.ofChange metricTagsWrong)

/-- 'forebaylaw07.MetricSplits': WHATEVER THE INPUT: true; the input reads as it did. -/
def metricSplitsSpec : ChangeSpec := { name := "metricSplits", fn := fun _ => fun
  | [d] => { results := [.lit (.bool true)], args := [d] }
  | _ => none }
def metricSplitsRow : OpenClaim := { program := "yteamldgngknmfaa", sum := "3964ca44461df3973f6d6f273ff1b6f5584ee8767c0f90792818babd1dff3c6f", func := "forebay/forebaylaw07.MetricSplits", spec := "metricSplits", inPlace := ["math/bits.Add64"], unfollowed := true, recurses := true, apart := false }
def MetricSplitsSaid : Prop := metricSplitsRow.holds Try.pinned (OpenSpec.ofChange metricSplitsSpec)

/-- ITS FALSE NEIGHBOUR: 'it returns false'. Refute it at one input. -/
def metricSplitsWrong : ChangeSpec := { name := "metricSplits", fn := fun _ => fun
  | [d] => { results := [.lit (.bool false)], args := [d] }
  | _ => none }
def MetricSplitsWrongFalsely : Prop := metricSplitsRow.holds Try.pinned (OpenSpec.ofChange metricSplitsWrong)

/-- 'forebaylaw07.MetricOnce': WHATEVER THE INPUT: true; the input reads as it did. -/
def metricOnceSpec : ChangeSpec := { name := "metricOnce", fn := fun _ => fun
  | [d] => { results := [.lit (.bool true)], args := [d] }
  | _ => none }
def metricOnceRow : OpenClaim := { program := "yteamldgngknmfaa", sum := "3964ca44461df3973f6d6f273ff1b6f5584ee8767c0f90792818babd1dff3c6f", func := "forebay/forebaylaw07.MetricOnce", spec := "metricOnce", inPlace := ["math/bits.Add64"], unfollowed := true, recurses := true, apart := false }
def MetricOnceSaid : Prop := metricOnceRow.holds Try.pinned (OpenSpec.ofChange metricOnceSpec)

/-- ITS FALSE NEIGHBOUR: 'it returns false'. Refute it at one input. -/
def metricOnceWrong : ChangeSpec := { name := "metricOnce", fn := fun _ => fun
  | [d] => { results := [.lit (.bool false)], args := [d] }
  | _ => none }
def MetricOnceWrongFalsely : Prop := metricOnceRow.holds Try.pinned (OpenSpec.ofChange metricOnceWrong)

/-- 'forebaylaw08.BatchChecks': WHATEVER THE INPUT: true; the input reads as it did. -/
def batchChecksSpec : ChangeSpec := { name := "batchChecks", fn := fun _ => fun
  | [d] => { results := [.lit (.bool true)], args := [d] }
  | _ => none }
def batchChecksRow : OpenClaim := { program := "yteamldgngknmfaa", sum := "3964ca44461df3973f6d6f273ff1b6f5584ee8767c0f90792818babd1dff3c6f", func := "forebay/forebaylaw08.BatchChecks", spec := "batchChecks", inPlace := ["math/bits.Add64"], unfollowed := true, recurses := true, apart := false }
def BatchChecksSaid : Prop := batchChecksRow.holds Try.pinned (OpenSpec.ofChange batchChecksSpec)

/-- ITS FALSE NEIGHBOUR: 'it returns false'. Refute it at one input. -/
def batchChecksWrong : ChangeSpec := { name := "batchChecks", fn := fun _ => fun
  | [d] => { results := [.lit (.bool false)], args := [d] }
  | _ => none }
def BatchChecksWrongFalsely : Prop := batchChecksRow.holds Try.pinned (OpenSpec.ofChange batchChecksWrong)

/-- 'forebaylaw08.BatchBehind': WHATEVER THE INPUT: true; the input reads as it did. -/
def batchBehindSpec : ChangeSpec := { name := "batchBehind", fn := fun _ => fun
  | [d1, d2] => { results := [.lit (.bool true)], args := [d1, d2] }
  | _ => none }
def batchBehindRow : OpenClaim := { program := "yteamldgngknmfaa", sum := "3964ca44461df3973f6d6f273ff1b6f5584ee8767c0f90792818babd1dff3c6f", func := "forebay/forebaylaw08.BatchBehind", spec := "batchBehind", inPlace := ["math/bits.Add64"], unfollowed := true, recurses := true, apart := false }
def BatchBehindSaid : Prop := batchBehindRow.holds Try.pinned (OpenSpec.ofChange batchBehindSpec)

/-- ITS FALSE NEIGHBOUR: 'it returns false'. Refute it at one input. -/
def batchBehindWrong : ChangeSpec := { name := "batchBehind", fn := fun _ => fun
  | [d1, d2] => { results := [.lit (.bool false)], args := [d1, d2] }
  | _ => none }
def BatchBehindWrongFalsely : Prop := batchBehindRow.holds Try.pinned (OpenSpec.ofChange batchBehindWrong)

/-- 'forebaylaw08.BatchEquals': WHATEVER THE INPUT: true; the input reads as it did. -/
def batchEqualsSpec : ChangeSpec := { name := "batchEquals", fn := fun _ => fun
  | [d1, d2] => { results := [.lit (.bool true)], args := [d1, d2] }
  | _ => none }
def batchEqualsRow : OpenClaim := { program := "yteamldgngknmfaa", sum := "3964ca44461df3973f6d6f273ff1b6f5584ee8767c0f90792818babd1dff3c6f", func := "forebay/forebaylaw08.BatchEquals", spec := "batchEquals", inPlace := ["math/bits.Add64"], unfollowed := true, recurses := true, apart := false }
def BatchEqualsSaid : Prop := batchEqualsRow.holds Try.pinned (OpenSpec.ofChange batchEqualsSpec)

/-- ITS FALSE NEIGHBOUR: 'it returns false'. Refute it at one input. -/
def batchEqualsWrong : ChangeSpec := { name := "batchEquals", fn := fun _ => fun
  | [d1, d2] => { results := [.lit (.bool false)], args := [d1, d2] }
  | _ => none }
def BatchEqualsWrongFalsely : Prop := batchEqualsRow.holds Try.pinned (OpenSpec.ofChange batchEqualsWrong)

/-- 'forebaylaw08.BatchOnce': WHATEVER THE INPUT: true; the input reads as it did. -/
def batchOnceSpec : ChangeSpec := { name := "batchOnce", fn := fun _ => fun
  | [d] => { results := [.lit (.bool true)], args := [d] }
  | _ => none }
def batchOnceRow : OpenClaim := { program := "yteamldgngknmfaa", sum := "3964ca44461df3973f6d6f273ff1b6f5584ee8767c0f90792818babd1dff3c6f", func := "forebay/forebaylaw08.BatchOnce", spec := "batchOnce", inPlace := ["math/bits.Add64"], unfollowed := true, recurses := true, apart := false }
def BatchOnceSaid : Prop := batchOnceRow.holds Try.pinned (OpenSpec.ofChange batchOnceSpec)

/-- ITS FALSE NEIGHBOUR: 'it returns false'. Refute it at one input. -/
def batchOnceWrong : ChangeSpec := { name := "batchOnce", fn := fun _ => fun
  | [d] => { results := [.lit (.bool false)], args := [d] }
  | _ => none }
def BatchOnceWrongFalsely : Prop := batchOnceRow.holds Try.pinned (OpenSpec.ofChange batchOnceWrong)

/-- 'forebaylaw08.BatchLong': WHATEVER THE INPUT: true; the input reads as it did. -/
def batchLongSpec : ChangeSpec := { name := "batchLong", fn := fun _ => fun
  | [d1, d2] => { results := [.lit (.bool true)], args := [d1, d2] }
  | _ => none }
def batchLongRow : OpenClaim := { program := "yteamldgngknmfaa", sum := "3964ca44461df3973f6d6f273ff1b6f5584ee8767c0f90792818babd1dff3c6f", func := "forebay/forebaylaw08.BatchLong", spec := "batchLong", inPlace := ["math/bits.Add64"], unfollowed := true, recurses := true, apart := false }
def BatchLongSaid : Prop := batchLongRow.holds Try.pinned (OpenSpec.ofChange batchLongSpec)

/-- ITS FALSE NEIGHBOUR: 'it returns false'. Refute it at one input. -/
def batchLongWrong : ChangeSpec := { name := "batchLong", fn := fun _ => fun
  | [d1, d2] => { results := [.lit (.bool false)], args := [d1, d2] }
  | _ => none }
def BatchLongWrongFalsely : Prop := batchLongRow.holds Try.pinned (OpenSpec.ofChange batchLongWrong)

/- THE SECOND FORM. 'bulk': how many values and letters a reading holds, each counted each time it is reached (what is shared counts as often as it is met; a slice's spare places count too). A statement '..UptoSaid' is the law's where the arguments, and the package variables that the reading takes, are together of bulk at most 1048576: NARROWER than '..Said'. Prove '..Said' where nothing that the law and all that it calls make is longer than what came in: it says more and counts as full. Else prove '..UptoSaid'. A law counts once. -/
mutual
def uptoBulk {H : Type} : DataW H → Nat
  | .lit (.string bytes) => bytes.length + 1
  | .lit _ => 1
  | .nil => 1
  | .ptr d => uptoBulk d + 1
  | .slice elems spare => uptoBulkAll elems + uptoBulkAll spare + 1
  | .agg parts => uptoBulkAll parts + 1
  | .iface _ d => uptoBulk d + 1
  | .map entries => uptoBulkEntries entries + 1
  | .held _ => 1
def uptoBulkAll {H : Type} : List (DataW H) → Nat
  | [] => 0
  | d :: r => uptoBulk d + uptoBulkAll r
def uptoBulkEntries {H : Type} : List (Lit × DataW H) → Nat
  | [] => 0
  | x :: r => uptoBulkEntry x + uptoBulkEntries r
def uptoBulkEntry {H : Type} : Lit × DataW H → Nat
  | (.string bytes, d) => bytes.length + uptoBulk d + 1
  | (_, d) => uptoBulk d + 1
 end
def uptoSmall : (H : Type) → List (DataW H) → Bool := fun _ ds => decide (uptoBulkAll ds ≤ 1048576)
def OpenSpec.upto (s : _root_.Go.ChangeSpec) : _root_.Go.OpenSpec := { _root_.Go.OpenSpec.ofChange s with cond := some uptoSmall }

/-- 'forebaylaw07.MetricChecks', WHERE WHAT IT READS IS OF BULK AT MOST 1048576: true; the input reads as it did. -/
def metricChecksUptoRow : OpenClaim := { program := "yteamldgngknmfaa", sum := "3964ca44461df3973f6d6f273ff1b6f5584ee8767c0f90792818babd1dff3c6f", func := "forebay/forebaylaw07.MetricChecks", spec := "metricChecks", inPlace := ["math/bits.Add64"], unfollowed := true, recurses := true, apart := false, narrowed := true }
def MetricChecksUptoSaid : Prop := metricChecksUptoRow.holds Try.pinned (OpenSpec.upto metricChecksSpec)

/-- 'forebaylaw07.MetricNormals', WHERE WHAT IT READS IS OF BULK AT MOST 1048576: true; the input reads as it did. -/
def metricNormalsUptoRow : OpenClaim := { program := "yteamldgngknmfaa", sum := "3964ca44461df3973f6d6f273ff1b6f5584ee8767c0f90792818babd1dff3c6f", func := "forebay/forebaylaw07.MetricNormals", spec := "metricNormals", inPlace := ["math/bits.Add64"], unfollowed := true, recurses := true, apart := false, narrowed := true }
def MetricNormalsUptoSaid : Prop := metricNormalsUptoRow.holds Try.pinned (OpenSpec.upto metricNormalsSpec)

/-- 'forebaylaw07.MetricEquals', WHERE WHAT IT READS IS OF BULK AT MOST 1048576: true; the input reads as it did. -/
def metricEqualsUptoRow : OpenClaim := { program := "yteamldgngknmfaa", sum := "3964ca44461df3973f6d6f273ff1b6f5584ee8767c0f90792818babd1dff3c6f", func := "forebay/forebaylaw07.MetricEquals", spec := "metricEquals", inPlace := ["math/bits.Add64"], unfollowed := true, recurses := true, apart := false, narrowed := true }
def MetricEqualsUptoSaid : Prop := metricEqualsUptoRow.holds Try.pinned (OpenSpec.upto metricEqualsSpec)

/-- 'forebaylaw07.MetricTags', WHERE WHAT IT READS IS OF BULK AT MOST 1048576: true; the input reads as it did. -/
def metricTagsUptoRow : OpenClaim := { program := "yteamldgngknmfaa", sum := "3964ca44461df3973f6d6f273ff1b6f5584ee8767c0f90792818babd1dff3c6f", func := "forebay/forebaylaw07.MetricTags", spec := "metricTags", inPlace := ["math/bits.Add64"], unfollowed := true, recurses := true, apart := false, narrowed := true }
def MetricTagsUptoSaid : Prop := metricTagsUptoRow.holds Try.pinned (OpenSpec.upto metricTagsSpec)

/-- 'forebaylaw07.MetricSplits', WHERE WHAT IT READS IS OF BULK AT MOST 1048576: true; the input reads as it did. -/
def metricSplitsUptoRow : OpenClaim := { program := "yteamldgngknmfaa", sum := "3964ca44461df3973f6d6f273ff1b6f5584ee8767c0f90792818babd1dff3c6f", func := "forebay/forebaylaw07.MetricSplits", spec := "metricSplits", inPlace := ["math/bits.Add64"], unfollowed := true, recurses := true, apart := false, narrowed := true }
def MetricSplitsUptoSaid : Prop := metricSplitsUptoRow.holds Try.pinned (OpenSpec.upto metricSplitsSpec)

/-- 'forebaylaw07.MetricOnce', WHERE WHAT IT READS IS OF BULK AT MOST 1048576: true; the input reads as it did. -/
def metricOnceUptoRow : OpenClaim := { program := "yteamldgngknmfaa", sum := "3964ca44461df3973f6d6f273ff1b6f5584ee8767c0f90792818babd1dff3c6f", func := "forebay/forebaylaw07.MetricOnce", spec := "metricOnce", inPlace := ["math/bits.Add64"], unfollowed := true, recurses := true, apart := false, narrowed := true }
def MetricOnceUptoSaid : Prop := metricOnceUptoRow.holds Try.pinned (OpenSpec.upto metricOnceSpec)

/-- 'forebaylaw08.BatchChecks', WHERE WHAT IT READS IS OF BULK AT MOST 1048576: true; the input reads as it did. -/
def batchChecksUptoRow : OpenClaim := { program := "yteamldgngknmfaa", sum := "3964ca44461df3973f6d6f273ff1b6f5584ee8767c0f90792818babd1dff3c6f", func := "forebay/forebaylaw08.BatchChecks", spec := "batchChecks", inPlace := ["math/bits.Add64"], unfollowed := true, recurses := true, apart := false, narrowed := true }
def BatchChecksUptoSaid : Prop := batchChecksUptoRow.holds Try.pinned (OpenSpec.upto batchChecksSpec)

/-- 'forebaylaw08.BatchBehind', WHERE WHAT IT READS IS OF BULK AT MOST 1048576: true; the input reads as it did. -/
def batchBehindUptoRow : OpenClaim := { program := "yteamldgngknmfaa", sum := "3964ca44461df3973f6d6f273ff1b6f5584ee8767c0f90792818babd1dff3c6f", func := "forebay/forebaylaw08.BatchBehind", spec := "batchBehind", inPlace := ["math/bits.Add64"], unfollowed := true, recurses := true, apart := false, narrowed := true }
def BatchBehindUptoSaid : Prop := batchBehindUptoRow.holds Try.pinned (OpenSpec.upto batchBehindSpec)

/-- 'forebaylaw08.BatchEquals', WHERE WHAT IT READS IS OF BULK AT MOST 1048576: true; the input reads as it did. -/
def batchEqualsUptoRow : OpenClaim := { program := "yteamldgngknmfaa", sum := "3964ca44461df3973f6d6f273ff1b6f5584ee8767c0f90792818babd1dff3c6f", func := "forebay/forebaylaw08.BatchEquals", spec := "batchEquals", inPlace := ["math/bits.Add64"], unfollowed := true, recurses := true, apart := false, narrowed := true }
def BatchEqualsUptoSaid : Prop := batchEqualsUptoRow.holds Try.pinned (OpenSpec.upto batchEqualsSpec)

/-- 'forebaylaw08.BatchOnce', WHERE WHAT IT READS IS OF BULK AT MOST 1048576: true; the input reads as it did. -/
def batchOnceUptoRow : OpenClaim := { program := "yteamldgngknmfaa", sum := "3964ca44461df3973f6d6f273ff1b6f5584ee8767c0f90792818babd1dff3c6f", func := "forebay/forebaylaw08.BatchOnce", spec := "batchOnce", inPlace := ["math/bits.Add64"], unfollowed := true, recurses := true, apart := false, narrowed := true }
def BatchOnceUptoSaid : Prop := batchOnceUptoRow.holds Try.pinned (OpenSpec.upto batchOnceSpec)

/-- 'forebaylaw08.BatchLong', WHERE WHAT IT READS IS OF BULK AT MOST 1048576: true; the input reads as it did. -/
def batchLongUptoRow : OpenClaim := { program := "yteamldgngknmfaa", sum := "3964ca44461df3973f6d6f273ff1b6f5584ee8767c0f90792818babd1dff3c6f", func := "forebay/forebaylaw08.BatchLong", spec := "batchLong", inPlace := ["math/bits.Add64"], unfollowed := true, recurses := true, apart := false, narrowed := true }
def BatchLongUptoSaid : Prop := batchLongUptoRow.holds Try.pinned (OpenSpec.upto batchLongSpec)

end Rows
end Go.Proofs.Yteamldgngknmfaa
