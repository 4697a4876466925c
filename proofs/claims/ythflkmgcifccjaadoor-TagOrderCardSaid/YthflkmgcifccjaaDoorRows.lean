/-
  NARROWER THAN 'FOR EVERY INPUT', by the rows' own cells (each row's printed sentence says how): TagParses: laid · TagParts: laid · TagChecks: laid · TagNormal: laid · TagOrder: laid · TagOnce: laid · TagBack: laid.
  DERIVED. THE GIVEN ROWS OF THIS SEAT. 7 by the template 'for every input the law returns true; each argument reads behind the call as it read before'; 0 by the template 'total and deterministic' (their statements: YthflkmgcifccjaaDoorTotals.lean).
  GIVEN WITH THE SEED: the statements are not yours to turn. If you find one false, say at which input.
  Laid BY PROGRAM, IN A SANDBOX (cutbox-rows.mjs): the forced cells as the released guide's own fill.sh prints them over the translation 02533d26317f005a… (all of the seat's roots in one cut). By AI agents, Wed Nov 11 2026. No macro, syntax, notation, axiom, sorry.
-/
import Derived.Test.YthflkmgcifccjaaDoorChecked
import GoSem.PinnedTables
import GoSem.Claim
import GoSem.ClaimJoined
import GoSem.ClaimMapViews
import Derived.JoinedTies
import Derived.KernelRfl
namespace Go.Proofs.YthflkmgcifccjaaDoor
/- THE CELL 'sum', in the pinned program and in every row, IS THE sha256 OF THE DUMP (.gsa) THAT YthflkmgcifccjaaDoorProg.lean LOADS. Nothing in Lean hashes anything: it is a label: what it is worth is what the hold of that sum in a sandbox is worth. -/
noncomputable def Tryd.pinned : Pinned := { name := "ythflkmgcifccjaadoor", sum := "02533d26317f005af9d601852391dc30c09a5d4e8666315dae48ab908f3e5249", checked := Tryd.checked }
namespace Rows
def none {H : Type} : Left H := { results := [], args := [] }

/- WHAT THE LISTED PACKAGE-LEVEL VARIABLES READ AS WHEN THE CALL BEGINS. Each datum BY PROGRAM (the guide's laid-datum.mjs) off the statement by which the dump's own 'gosem.cut.vars' lays the variable. In a bare row this is a premise. The card (YthflkmgcifccjaaDoorCards.lean) ties it to the program's text. -/
def laid_unicode_utf8_acceptRanges {H : Type} : DataW H := .agg [.agg [.lit (.int .u8 128), .lit (.int .u8 191)], .agg [.lit (.int .u8 160), .lit (.int .u8 191)], .agg [.lit (.int .u8 128), .lit (.int .u8 159)], .agg [.lit (.int .u8 144), .lit (.int .u8 191)], .agg [.lit (.int .u8 128), .lit (.int .u8 143)], .agg [.lit (.int .u8 0), .lit (.int .u8 0)], .agg [.lit (.int .u8 0), .lit (.int .u8 0)], .agg [.lit (.int .u8 0), .lit (.int .u8 0)], .agg [.lit (.int .u8 0), .lit (.int .u8 0)], .agg [.lit (.int .u8 0), .lit (.int .u8 0)], .agg [.lit (.int .u8 0), .lit (.int .u8 0)], .agg [.lit (.int .u8 0), .lit (.int .u8 0)], .agg [.lit (.int .u8 0), .lit (.int .u8 0)], .agg [.lit (.int .u8 0), .lit (.int .u8 0)], .agg [.lit (.int .u8 0), .lit (.int .u8 0)], .agg [.lit (.int .u8 0), .lit (.int .u8 0)]]
/-- One of Go's own tables, pinned by name: the form's constant. -/
def laid_unicode_utf8_first : DataW Unit := Go.Pinned.utf8First

/-- 'forebaylaw06.TagParses': WHATEVER THE INPUT: true; the input reads as it did. -/
def tagParsesSpec : ChangeSpec := { name := "tagParses", fn := fun _ => fun
  | [d] => { results := [.lit (.bool true)], args := [d] }
  | _ => none }
def tagParsesRow : OpenClaim := { program := "ythflkmgcifccjaadoor", sum := "02533d26317f005af9d601852391dc30c09a5d4e8666315dae48ab908f3e5249", func := "forebay/forebaylaw06.TagParses", spec := "tagParses", inPlace := ["internal/bytealg.CountString", "internal/bytealg.IndexByteString", "internal/bytealg.IndexString"], unfollowed := true, recurses := true, named := ["unicode/utf8.first", "unicode/utf8.acceptRanges", "internal/bytealg.MaxLen"], apart := false, laid := [("unicode/utf8.acceptRanges", laid_unicode_utf8_acceptRanges), ("unicode/utf8.first", laid_unicode_utf8_first)] }
def TagParsesSaid : Prop := tagParsesRow.holds Tryd.pinned (OpenSpec.ofChange tagParsesSpec)

/-- ITS FALSE NEIGHBOUR: 'it returns false'. Refute it at one input. -/
def tagParsesWrong : ChangeSpec := { name := "tagParses", fn := fun _ => fun
  | [d] => { results := [.lit (.bool false)], args := [d] }
  | _ => none }
def TagParsesWrongFalsely : Prop := tagParsesRow.holds Tryd.pinned (OpenSpec.ofChange tagParsesWrong)

/-- 'forebaylaw06.TagParts': WHATEVER THE INPUT: true; the input reads as it did. -/
def tagPartsSpec : ChangeSpec := { name := "tagParts", fn := fun _ => fun
  | [d] => { results := [.lit (.bool true)], args := [d] }
  | _ => none }
def tagPartsRow : OpenClaim := { program := "ythflkmgcifccjaadoor", sum := "02533d26317f005af9d601852391dc30c09a5d4e8666315dae48ab908f3e5249", func := "forebay/forebaylaw06.TagParts", spec := "tagParts", inPlace := ["internal/bytealg.CountString", "internal/bytealg.IndexByteString", "internal/bytealg.IndexString"], unfollowed := true, recurses := true, named := ["unicode/utf8.first", "unicode/utf8.acceptRanges", "internal/bytealg.MaxLen"], apart := false, laid := [("unicode/utf8.acceptRanges", laid_unicode_utf8_acceptRanges), ("unicode/utf8.first", laid_unicode_utf8_first)] }
def TagPartsSaid : Prop := tagPartsRow.holds Tryd.pinned (OpenSpec.ofChange tagPartsSpec)

/-- ITS FALSE NEIGHBOUR: 'it returns false'. Refute it at one input. -/
def tagPartsWrong : ChangeSpec := { name := "tagParts", fn := fun _ => fun
  | [d] => { results := [.lit (.bool false)], args := [d] }
  | _ => none }
def TagPartsWrongFalsely : Prop := tagPartsRow.holds Tryd.pinned (OpenSpec.ofChange tagPartsWrong)

/-- 'forebaylaw06.TagChecks': WHATEVER THE INPUT: true; the input reads as it did. -/
def tagChecksSpec : ChangeSpec := { name := "tagChecks", fn := fun _ => fun
  | [d1, d2] => { results := [.lit (.bool true)], args := [d1, d2] }
  | _ => none }
def tagChecksRow : OpenClaim := { program := "ythflkmgcifccjaadoor", sum := "02533d26317f005af9d601852391dc30c09a5d4e8666315dae48ab908f3e5249", func := "forebay/forebaylaw06.TagChecks", spec := "tagChecks", inPlace := ["internal/bytealg.CountString", "internal/bytealg.IndexByteString", "internal/bytealg.IndexString"], unfollowed := true, recurses := true, named := ["unicode/utf8.first", "unicode/utf8.acceptRanges", "internal/bytealg.MaxLen"], apart := false, laid := [("unicode/utf8.acceptRanges", laid_unicode_utf8_acceptRanges), ("unicode/utf8.first", laid_unicode_utf8_first)] }
def TagChecksSaid : Prop := tagChecksRow.holds Tryd.pinned (OpenSpec.ofChange tagChecksSpec)

/-- ITS FALSE NEIGHBOUR: 'it returns false'. Refute it at one input. -/
def tagChecksWrong : ChangeSpec := { name := "tagChecks", fn := fun _ => fun
  | [d1, d2] => { results := [.lit (.bool false)], args := [d1, d2] }
  | _ => none }
def TagChecksWrongFalsely : Prop := tagChecksRow.holds Tryd.pinned (OpenSpec.ofChange tagChecksWrong)

/-- 'forebaylaw06.TagNormal': WHATEVER THE INPUT: true; the input reads as it did. -/
def tagNormalSpec : ChangeSpec := { name := "tagNormal", fn := fun _ => fun
  | [d] => { results := [.lit (.bool true)], args := [d] }
  | _ => none }
def tagNormalRow : OpenClaim := { program := "ythflkmgcifccjaadoor", sum := "02533d26317f005af9d601852391dc30c09a5d4e8666315dae48ab908f3e5249", func := "forebay/forebaylaw06.TagNormal", spec := "tagNormal", inPlace := ["internal/bytealg.CountString", "internal/bytealg.IndexByteString", "internal/bytealg.IndexString"], unfollowed := true, recurses := true, named := ["unicode/utf8.first", "unicode/utf8.acceptRanges", "internal/bytealg.MaxLen"], apart := false, laid := [("unicode/utf8.acceptRanges", laid_unicode_utf8_acceptRanges), ("unicode/utf8.first", laid_unicode_utf8_first)] }
def TagNormalSaid : Prop := tagNormalRow.holds Tryd.pinned (OpenSpec.ofChange tagNormalSpec)

/-- ITS FALSE NEIGHBOUR: 'it returns false'. Refute it at one input. -/
def tagNormalWrong : ChangeSpec := { name := "tagNormal", fn := fun _ => fun
  | [d] => { results := [.lit (.bool false)], args := [d] }
  | _ => none }
def TagNormalWrongFalsely : Prop := tagNormalRow.holds Tryd.pinned (OpenSpec.ofChange tagNormalWrong)

/-- 'forebaylaw06.TagOrder': WHATEVER THE INPUT: true; the input reads as it did. -/
def tagOrderSpec : ChangeSpec := { name := "tagOrder", fn := fun _ => fun
  | [d] => { results := [.lit (.bool true)], args := [d] }
  | _ => none }
def tagOrderRow : OpenClaim := { program := "ythflkmgcifccjaadoor", sum := "02533d26317f005af9d601852391dc30c09a5d4e8666315dae48ab908f3e5249", func := "forebay/forebaylaw06.TagOrder", spec := "tagOrder", inPlace := ["internal/bytealg.CountString", "internal/bytealg.IndexByteString", "internal/bytealg.IndexString"], unfollowed := true, recurses := true, named := ["unicode/utf8.first", "unicode/utf8.acceptRanges", "internal/bytealg.MaxLen"], apart := false, laid := [("unicode/utf8.acceptRanges", laid_unicode_utf8_acceptRanges), ("unicode/utf8.first", laid_unicode_utf8_first)] }
def TagOrderSaid : Prop := tagOrderRow.holds Tryd.pinned (OpenSpec.ofChange tagOrderSpec)

/-- ITS FALSE NEIGHBOUR: 'it returns false'. Refute it at one input. -/
def tagOrderWrong : ChangeSpec := { name := "tagOrder", fn := fun _ => fun
  | [d] => { results := [.lit (.bool false)], args := [d] }
  | _ => none }
def TagOrderWrongFalsely : Prop := tagOrderRow.holds Tryd.pinned (OpenSpec.ofChange tagOrderWrong)

/-- 'forebaylaw06.TagOnce': WHATEVER THE INPUT: true; the input reads as it did. -/
def tagOnceSpec : ChangeSpec := { name := "tagOnce", fn := fun _ => fun
  | [d1, d2, d3] => { results := [.lit (.bool true)], args := [d1, d2, d3] }
  | _ => none }
def tagOnceRow : OpenClaim := { program := "ythflkmgcifccjaadoor", sum := "02533d26317f005af9d601852391dc30c09a5d4e8666315dae48ab908f3e5249", func := "forebay/forebaylaw06.TagOnce", spec := "tagOnce", inPlace := ["internal/bytealg.CountString", "internal/bytealg.IndexByteString", "internal/bytealg.IndexString"], unfollowed := true, recurses := true, named := ["unicode/utf8.first", "unicode/utf8.acceptRanges", "internal/bytealg.MaxLen"], apart := false, laid := [("unicode/utf8.acceptRanges", laid_unicode_utf8_acceptRanges), ("unicode/utf8.first", laid_unicode_utf8_first)] }
def TagOnceSaid : Prop := tagOnceRow.holds Tryd.pinned (OpenSpec.ofChange tagOnceSpec)

/-- ITS FALSE NEIGHBOUR: 'it returns false'. Refute it at one input. -/
def tagOnceWrong : ChangeSpec := { name := "tagOnce", fn := fun _ => fun
  | [d1, d2, d3] => { results := [.lit (.bool false)], args := [d1, d2, d3] }
  | _ => none }
def TagOnceWrongFalsely : Prop := tagOnceRow.holds Tryd.pinned (OpenSpec.ofChange tagOnceWrong)

/-- 'forebaylaw06.TagBack': WHATEVER THE INPUT: true; the input reads as it did. -/
def tagBackSpec : ChangeSpec := { name := "tagBack", fn := fun _ => fun
  | [d1, d2] => { results := [.lit (.bool true)], args := [d1, d2] }
  | _ => none }
def tagBackRow : OpenClaim := { program := "ythflkmgcifccjaadoor", sum := "02533d26317f005af9d601852391dc30c09a5d4e8666315dae48ab908f3e5249", func := "forebay/forebaylaw06.TagBack", spec := "tagBack", inPlace := ["internal/bytealg.CountString", "internal/bytealg.IndexByteString", "internal/bytealg.IndexString", "internal/abi.NoEscape", "internal/bytealg.MakeNoZero"], unfollowed := true, recurses := true, named := ["unicode/utf8.first", "unicode/utf8.acceptRanges", "internal/bytealg.MaxLen"], apart := false, laid := [("unicode/utf8.acceptRanges", laid_unicode_utf8_acceptRanges), ("unicode/utf8.first", laid_unicode_utf8_first)] }
def TagBackSaid : Prop := tagBackRow.holds Tryd.pinned (OpenSpec.ofChange tagBackSpec)

/-- ITS FALSE NEIGHBOUR: 'it returns false'. Refute it at one input. -/
def tagBackWrong : ChangeSpec := { name := "tagBack", fn := fun _ => fun
  | [d1, d2] => { results := [.lit (.bool false)], args := [d1, d2] }
  | _ => none }
def TagBackWrongFalsely : Prop := tagBackRow.holds Tryd.pinned (OpenSpec.ofChange tagBackWrong)

/- THE SECOND FORM. 'bulk': how many values and letters a reading holds, each counted each time it is reached (what is shared counts as often as it is met; a slice's spare places count too). A statement '..UptoSaid' is the law's where the arguments, and the package variables that the reading takes, are together of bulk at most 1048576: NARROWER than '..Said'. Prove '..Said' where nothing that the law and all that it calls make is longer than what came in: it says more and counts as full. Else prove '..UptoSaid'. A law counts once. -/
mutual
def uptoBulk {H : Type} : DataW H → Nat
  | .lit (.string bytes) => bytes.length + 1
  | .lit _ => 1
  | .nil => 1
  | .ptr d => uptoBulk d + 1
  | .slice elems spare => uptoBulkAll elems + uptoBulkAll spare + 1
  | .agg parts => uptoBulkAll parts + 1
  | .iface _ d => uptoBulk d + 1
  | .map entries => uptoBulkEntries entries + 1
  | .held _ => 1
def uptoBulkAll {H : Type} : List (DataW H) → Nat
  | [] => 0
  | d :: r => uptoBulk d + uptoBulkAll r
def uptoBulkEntries {H : Type} : List (Lit × DataW H) → Nat
  | [] => 0
  | x :: r => uptoBulkEntry x + uptoBulkEntries r
def uptoBulkEntry {H : Type} : Lit × DataW H → Nat
  | (.string bytes, d) => bytes.length + uptoBulk d + 1
  | (_, d) => uptoBulk d + 1
 end
def uptoSmall : (H : Type) → List (DataW H) → Bool := fun _ ds => decide (uptoBulkAll ds ≤ 1048576)
def OpenSpec.upto (s : _root_.Go.ChangeSpec) : _root_.Go.OpenSpec := { _root_.Go.OpenSpec.ofChange s with cond := some uptoSmall }

/-- 'forebaylaw06.TagParses', WHERE WHAT IT READS IS OF BULK AT MOST 1048576: true; the input reads as it did. -/
def tagParsesUptoRow : OpenClaim := { program := "ythflkmgcifccjaadoor", sum := "02533d26317f005af9d601852391dc30c09a5d4e8666315dae48ab908f3e5249", func := "forebay/forebaylaw06.TagParses", spec := "tagParses", inPlace := ["internal/bytealg.CountString", "internal/bytealg.IndexByteString", "internal/bytealg.IndexString"], unfollowed := true, recurses := true, named := ["unicode/utf8.first", "unicode/utf8.acceptRanges", "internal/bytealg.MaxLen"], apart := false, laid := [("unicode/utf8.acceptRanges", laid_unicode_utf8_acceptRanges), ("unicode/utf8.first", laid_unicode_utf8_first)], narrowed := true }
def TagParsesUptoSaid : Prop := tagParsesUptoRow.holds Tryd.pinned (OpenSpec.upto tagParsesSpec)

/-- 'forebaylaw06.TagParts', WHERE WHAT IT READS IS OF BULK AT MOST 1048576: true; the input reads as it did. -/
def tagPartsUptoRow : OpenClaim := { program := "ythflkmgcifccjaadoor", sum := "02533d26317f005af9d601852391dc30c09a5d4e8666315dae48ab908f3e5249", func := "forebay/forebaylaw06.TagParts", spec := "tagParts", inPlace := ["internal/bytealg.CountString", "internal/bytealg.IndexByteString", "internal/bytealg.IndexString"], unfollowed := true, recurses := true, named := ["unicode/utf8.first", "unicode/utf8.acceptRanges", "internal/bytealg.MaxLen"], apart := false, laid := [("unicode/utf8.acceptRanges", laid_unicode_utf8_acceptRanges), ("unicode/utf8.first", laid_unicode_utf8_first)], narrowed := true }
def TagPartsUptoSaid : Prop := tagPartsUptoRow.holds Tryd.pinned (OpenSpec.upto tagPartsSpec)

/-- 'forebaylaw06.TagChecks', WHERE WHAT IT READS IS OF BULK AT MOST 1048576: true; the input reads as it did. -/
def tagChecksUptoRow : OpenClaim := { program := "ythflkmgcifccjaadoor", sum := "02533d26317f005af9d601852391dc30c09a5d4e8666315dae48ab908f3e5249", func := "forebay/forebaylaw06.TagChecks", spec := "tagChecks", inPlace := ["internal/bytealg.CountString", "internal/bytealg.IndexByteString", "internal/bytealg.IndexString"], unfollowed := true, recurses := true, named := ["unicode/utf8.first", "unicode/utf8.acceptRanges", "internal/bytealg.MaxLen"], apart := false, laid := [("unicode/utf8.acceptRanges", laid_unicode_utf8_acceptRanges), ("unicode/utf8.first", laid_unicode_utf8_first)], narrowed := true }
def TagChecksUptoSaid : Prop := tagChecksUptoRow.holds Tryd.pinned (OpenSpec.upto tagChecksSpec)

/-- 'forebaylaw06.TagNormal', WHERE WHAT IT READS IS OF BULK AT MOST 1048576: true; the input reads as it did. -/
def tagNormalUptoRow : OpenClaim := { program := "ythflkmgcifccjaadoor", sum := "02533d26317f005af9d601852391dc30c09a5d4e8666315dae48ab908f3e5249", func := "forebay/forebaylaw06.TagNormal", spec := "tagNormal", inPlace := ["internal/bytealg.CountString", "internal/bytealg.IndexByteString", "internal/bytealg.IndexString"], unfollowed := true, recurses := true, named := ["unicode/utf8.first", "unicode/utf8.acceptRanges", "internal/bytealg.MaxLen"], apart := false, laid := [("unicode/utf8.acceptRanges", laid_unicode_utf8_acceptRanges), ("unicode/utf8.first", laid_unicode_utf8_first)], narrowed := true }
def TagNormalUptoSaid : Prop := tagNormalUptoRow.holds Tryd.pinned (OpenSpec.upto tagNormalSpec)

/-- 'forebaylaw06.TagOrder', WHERE WHAT IT READS IS OF BULK AT MOST 1048576: true; the input reads as it did. -/
def tagOrderUptoRow : OpenClaim := { program := "ythflkmgcifccjaadoor", sum := "02533d26317f005af9d601852391dc30c09a5d4e8666315dae48ab908f3e5249", func := "forebay/forebaylaw06.TagOrder", spec := "tagOrder", inPlace := ["internal/bytealg.CountString", "internal/bytealg.IndexByteString", "internal/bytealg.IndexString"], unfollowed := true, recurses := true, named := ["unicode/utf8.first", "unicode/utf8.acceptRanges", "internal/bytealg.MaxLen"], apart := false, laid := [("unicode/utf8.acceptRanges", laid_unicode_utf8_acceptRanges), ("unicode/utf8.first", laid_unicode_utf8_first)], narrowed := true }
def TagOrderUptoSaid : Prop := tagOrderUptoRow.holds Tryd.pinned (OpenSpec.upto tagOrderSpec)

/-- 'forebaylaw06.TagOnce', WHERE WHAT IT READS IS OF BULK AT MOST 1048576: true; the input reads as it did. -/
def tagOnceUptoRow : OpenClaim := { program := "ythflkmgcifccjaadoor", sum := "02533d26317f005af9d601852391dc30c09a5d4e8666315dae48ab908f3e5249", func := "forebay/forebaylaw06.TagOnce", spec := "tagOnce", inPlace := ["internal/bytealg.CountString", "internal/bytealg.IndexByteString", "internal/bytealg.IndexString"], unfollowed := true, recurses := true, named := ["unicode/utf8.first", "unicode/utf8.acceptRanges", "internal/bytealg.MaxLen"], apart := false, laid := [("unicode/utf8.acceptRanges", laid_unicode_utf8_acceptRanges), ("unicode/utf8.first", laid_unicode_utf8_first)], narrowed := true }
def TagOnceUptoSaid : Prop := tagOnceUptoRow.holds Tryd.pinned (OpenSpec.upto tagOnceSpec)

/-- 'forebaylaw06.TagBack', WHERE WHAT IT READS IS OF BULK AT MOST 1048576: true; the input reads as it did. -/
def tagBackUptoRow : OpenClaim := { program := "ythflkmgcifccjaadoor", sum := "02533d26317f005af9d601852391dc30c09a5d4e8666315dae48ab908f3e5249", func := "forebay/forebaylaw06.TagBack", spec := "tagBack", inPlace := ["internal/bytealg.CountString", "internal/bytealg.IndexByteString", "internal/bytealg.IndexString", "internal/abi.NoEscape", "internal/bytealg.MakeNoZero"], unfollowed := true, recurses := true, named := ["unicode/utf8.first", "unicode/utf8.acceptRanges", "internal/bytealg.MaxLen"], apart := false, laid := [("unicode/utf8.acceptRanges", laid_unicode_utf8_acceptRanges), ("unicode/utf8.first", laid_unicode_utf8_first)], narrowed := true }
def TagBackUptoSaid : Prop := tagBackUptoRow.holds Tryd.pinned (OpenSpec.upto tagBackSpec)

end Rows
end Go.Proofs.YthflkmgcifccjaaDoor
