/-
  No cell of these rows narrows 'for every input' (looked for: loops, veiled, ifaces, maps, wideKeys, modest, calm, conditions, laid).
  DERIVED. THE GIVEN ROWS OF THIS SEAT. 9 by the template 'for every input the law returns true; each argument reads behind the call as it read before'; 0 by the template 'total and deterministic' (their statements: YtbdennijmfgdpaaTotals.lean).
  GIVEN WITH THE SEED: the statements are not yours to turn. If you find one false, say at which input.
  Laid BY PROGRAM, IN A SANDBOX (cutbox-rows.mjs): the forced cells as the released guide's own fill.sh prints them over the translation 308cc437be3998b8… (all of the seat's roots in one cut). By AI agents, Wed Nov 11 2026. No macro, syntax, notation, axiom, sorry.
-/
import Derived.Test.YtbdennijmfgdpaaChecked
import GoSem.Claim
import GoSem.ClaimJoined
import GoSem.ClaimMapViews
import Derived.JoinedTies
import Derived.KernelRfl
namespace Go.Proofs.Ytbdennijmfgdpaa
/- THE CELL 'sum', in the pinned program and in every row, IS THE sha256 OF THE DUMP (.gsa) THAT YtbdennijmfgdpaaProg.lean LOADS. Nothing in Lean hashes anything: it is a label: what it is worth is what the hold of that sum in a sandbox is worth. -/
noncomputable def Try.pinned : Pinned := { name := "ytbdennijmfgdpaa", sum := "308cc437be3998b81ef92b57a2c90ab6fe11eb7ebbe8863b0c2fc7a54fe96d43", checked := Try.checked }
namespace Rows
def none {H : Type} : Left H := { results := [], args := [] }

/-- 'forebaylaw09.ExprCuts': WHATEVER THE INPUT: true; the input reads as it did. -/
def exprCutsSpec : ChangeSpec := { name := "exprCuts", fn := fun _ => fun
  | [d1, d2] => { results := [.lit (.bool true)], args := [d1, d2] }
  | _ => none }
def exprCutsRow : OpenClaim := { program := "ytbdennijmfgdpaa", sum := "308cc437be3998b81ef92b57a2c90ab6fe11eb7ebbe8863b0c2fc7a54fe96d43", func := "forebay/forebaylaw09.ExprCuts", spec := "exprCuts", inPlace := ["math/bits.Add64"], unfollowed := true, recurses := true, apart := false }
def ExprCutsSaid : Prop := exprCutsRow.holds Try.pinned (OpenSpec.ofChange exprCutsSpec)

/-- ITS FALSE NEIGHBOUR: 'it returns false'. Refute it at one input. -/
def exprCutsWrong : ChangeSpec := { name := "exprCuts", fn := fun _ => fun
  | [d1, d2] => { results := [.lit (.bool false)], args := [d1, d2] }
  | _ => none }
def ExprCutsWrongFalsely : Prop := exprCutsRow.holds Try.pinned (OpenSpec.ofChange exprCutsWrong)

/-- 'forebaylaw09.ExprSays': WHATEVER THE INPUT: true; the input reads as it did. -/
def exprSaysSpec : ChangeSpec := { name := "exprSays", fn := fun _ => fun
  | [d1, d2] => { results := [.lit (.bool true)], args := [d1, d2] }
  | _ => none }
def exprSaysRow : OpenClaim := { program := "ytbdennijmfgdpaa", sum := "308cc437be3998b81ef92b57a2c90ab6fe11eb7ebbe8863b0c2fc7a54fe96d43", func := "forebay/forebaylaw09.ExprSays", spec := "exprSays", inPlace := ["math/bits.Add64"], unfollowed := true, recurses := true, apart := false }
def ExprSaysSaid : Prop := exprSaysRow.holds Try.pinned (OpenSpec.ofChange exprSaysSpec)

/-- ITS FALSE NEIGHBOUR: 'it returns false'. Refute it at one input. -/
def exprSaysWrong : ChangeSpec := { name := "exprSays", fn := fun _ => fun
  | [d1, d2] => { results := [.lit (.bool false)], args := [d1, d2] }
  | _ => none }
def ExprSaysWrongFalsely : Prop := exprSaysRow.holds Try.pinned (OpenSpec.ofChange exprSaysWrong)

/-- 'forebaylaw09.ExprBatches': WHATEVER THE INPUT: true; the input reads as it did. -/
def exprBatchesSpec : ChangeSpec := { name := "exprBatches", fn := fun _ => fun
  | [d1, d2] => { results := [.lit (.bool true)], args := [d1, d2] }
  | _ => none }
def exprBatchesRow : OpenClaim := { program := "ytbdennijmfgdpaa", sum := "308cc437be3998b81ef92b57a2c90ab6fe11eb7ebbe8863b0c2fc7a54fe96d43", func := "forebay/forebaylaw09.ExprBatches", spec := "exprBatches", inPlace := ["math/bits.Add64"], unfollowed := true, recurses := true, apart := false }
def ExprBatchesSaid : Prop := exprBatchesRow.holds Try.pinned (OpenSpec.ofChange exprBatchesSpec)

/-- ITS FALSE NEIGHBOUR: 'it returns false'. Refute it at one input. -/
def exprBatchesWrong : ChangeSpec := { name := "exprBatches", fn := fun _ => fun
  | [d1, d2] => { results := [.lit (.bool false)], args := [d1, d2] }
  | _ => none }
def ExprBatchesWrongFalsely : Prop := exprBatchesRow.holds Try.pinned (OpenSpec.ofChange exprBatchesWrong)

/-- 'forebaylaw09.ExprSome': WHATEVER THE INPUT: true; the input reads as it did. -/
def exprSomeSpec : ChangeSpec := { name := "exprSome", fn := fun _ => fun
  | [d1, d2] => { results := [.lit (.bool true)], args := [d1, d2] }
  | _ => none }
def exprSomeRow : OpenClaim := { program := "ytbdennijmfgdpaa", sum := "308cc437be3998b81ef92b57a2c90ab6fe11eb7ebbe8863b0c2fc7a54fe96d43", func := "forebay/forebaylaw09.ExprSome", spec := "exprSome", inPlace := ["math/bits.Add64"], unfollowed := true, recurses := true, apart := false }
def ExprSomeSaid : Prop := exprSomeRow.holds Try.pinned (OpenSpec.ofChange exprSomeSpec)

/-- ITS FALSE NEIGHBOUR: 'it returns false'. Refute it at one input. -/
def exprSomeWrong : ChangeSpec := { name := "exprSome", fn := fun _ => fun
  | [d1, d2] => { results := [.lit (.bool false)], args := [d1, d2] }
  | _ => none }
def ExprSomeWrongFalsely : Prop := exprSomeRow.holds Try.pinned (OpenSpec.ofChange exprSomeWrong)

/-- 'forebaylaw09.ExprItself': WHATEVER THE INPUT: true; the input reads as it did. -/
def exprItselfSpec : ChangeSpec := { name := "exprItself", fn := fun _ => fun
  | [d1, d2] => { results := [.lit (.bool true)], args := [d1, d2] }
  | _ => none }
def exprItselfRow : OpenClaim := { program := "ytbdennijmfgdpaa", sum := "308cc437be3998b81ef92b57a2c90ab6fe11eb7ebbe8863b0c2fc7a54fe96d43", func := "forebay/forebaylaw09.ExprItself", spec := "exprItself", inPlace := ["math/bits.Add64"], unfollowed := true, recurses := true, apart := false }
def ExprItselfSaid : Prop := exprItselfRow.holds Try.pinned (OpenSpec.ofChange exprItselfSpec)

/-- ITS FALSE NEIGHBOUR: 'it returns false'. Refute it at one input. -/
def exprItselfWrong : ChangeSpec := { name := "exprItself", fn := fun _ => fun
  | [d1, d2] => { results := [.lit (.bool false)], args := [d1, d2] }
  | _ => none }
def ExprItselfWrongFalsely : Prop := exprItselfRow.holds Try.pinned (OpenSpec.ofChange exprItselfWrong)

/-- 'forebaylaw16.RecPuts': WHATEVER THE INPUT: true; the input reads as it did. -/
def recPutsSpec : ChangeSpec := { name := "recPuts", fn := fun _ => fun
  | [d1, d2] => { results := [.lit (.bool true)], args := [d1, d2] }
  | _ => none }
def recPutsRow : OpenClaim := { program := "ytbdennijmfgdpaa", sum := "308cc437be3998b81ef92b57a2c90ab6fe11eb7ebbe8863b0c2fc7a54fe96d43", func := "forebay/forebaylaw16.RecPuts", spec := "recPuts", inPlace := ["math/bits.Add64"], unfollowed := true, recurses := true, apart := false }
def RecPutsSaid : Prop := recPutsRow.holds Try.pinned (OpenSpec.ofChange recPutsSpec)

/-- ITS FALSE NEIGHBOUR: 'it returns false'. Refute it at one input. -/
def recPutsWrong : ChangeSpec := { name := "recPuts", fn := fun _ => fun
  | [d1, d2] => { results := [.lit (.bool false)], args := [d1, d2] }
  | _ => none }
def RecPutsWrongFalsely : Prop := recPutsRow.holds Try.pinned (OpenSpec.ofChange recPutsWrong)

/-- 'forebaylaw16.RecDecs': WHATEVER THE INPUT: true; the input reads as it did. -/
def recDecsSpec : ChangeSpec := { name := "recDecs", fn := fun _ => fun
  | [d1, d2] => { results := [.lit (.bool true)], args := [d1, d2] }
  | _ => none }
def recDecsRow : OpenClaim := { program := "ytbdennijmfgdpaa", sum := "308cc437be3998b81ef92b57a2c90ab6fe11eb7ebbe8863b0c2fc7a54fe96d43", func := "forebay/forebaylaw16.RecDecs", spec := "recDecs", inPlace := ["math/bits.Add64"], unfollowed := true, recurses := true, apart := false }
def RecDecsSaid : Prop := recDecsRow.holds Try.pinned (OpenSpec.ofChange recDecsSpec)

/-- ITS FALSE NEIGHBOUR: 'it returns false'. Refute it at one input. -/
def recDecsWrong : ChangeSpec := { name := "recDecs", fn := fun _ => fun
  | [d1, d2] => { results := [.lit (.bool false)], args := [d1, d2] }
  | _ => none }
def RecDecsWrongFalsely : Prop := recDecsRow.holds Try.pinned (OpenSpec.ofChange recDecsWrong)

/-- 'forebaylaw16.RecBack': WHATEVER THE INPUT: true; the input reads as it did. -/
def recBackSpec : ChangeSpec := { name := "recBack", fn := fun _ => fun
  | [d1, d2, d3] => { results := [.lit (.bool true)], args := [d1, d2, d3] }
  | _ => none }
def recBackRow : OpenClaim := { program := "ytbdennijmfgdpaa", sum := "308cc437be3998b81ef92b57a2c90ab6fe11eb7ebbe8863b0c2fc7a54fe96d43", func := "forebay/forebaylaw16.RecBack", spec := "recBack", inPlace := ["math/bits.Add64"], unfollowed := true, recurses := true, apart := false }
def RecBackSaid : Prop := recBackRow.holds Try.pinned (OpenSpec.ofChange recBackSpec)

/-- ITS FALSE NEIGHBOUR: 'it returns false'. Refute it at one input. -/
def recBackWrong : ChangeSpec := { name := "recBack", fn := fun _ => fun
  | [d1, d2, d3] => { results := [.lit (.bool false)], args := [d1, d2, d3] }
  | _ => none }
def RecBackWrongFalsely : Prop := recBackRow.holds Try.pinned (OpenSpec.ofChange recBackWrong)

/-- 'forebaylaw16.RecOnly': WHATEVER THE INPUT: true; the input reads as it did. -/
def recOnlySpec : ChangeSpec := { name := "recOnly", fn := fun _ => fun
  | [d1, d2] => { results := [.lit (.bool true)], args := [d1, d2] }
  | _ => none }
def recOnlyRow : OpenClaim := { program := "ytbdennijmfgdpaa", sum := "308cc437be3998b81ef92b57a2c90ab6fe11eb7ebbe8863b0c2fc7a54fe96d43", func := "forebay/forebaylaw16.RecOnly", spec := "recOnly", inPlace := ["math/bits.Add64"], unfollowed := true, recurses := true, apart := false }
def RecOnlySaid : Prop := recOnlyRow.holds Try.pinned (OpenSpec.ofChange recOnlySpec)

/-- ITS FALSE NEIGHBOUR: 'it returns false'. Refute it at one input. -/
def recOnlyWrong : ChangeSpec := { name := "recOnly", fn := fun _ => fun
  | [d1, d2] => { results := [.lit (.bool false)], args := [d1, d2] }
  | _ => none }
def RecOnlyWrongFalsely : Prop := recOnlyRow.holds Try.pinned (OpenSpec.ofChange recOnlyWrong)

/- THE SECOND FORM. 'bulk': how many values and letters a reading holds, each counted each time it is reached (what is shared counts as often as it is met; a slice's spare places count too). A statement '..UptoSaid' is the law's where the arguments, and the package variables that the reading takes, are together of bulk at most 1048576: NARROWER than '..Said'. Prove '..Said' where nothing that the law and all that it calls make is longer than what came in: it says more and counts as full. Else prove '..UptoSaid'. A law counts once. -/
mutual
def uptoBulk {H : Type} : DataW H → Nat
  | .lit (.string bytes) => bytes.length + 1
  | .lit _ => 1
  | .nil => 1
  | .ptr d => uptoBulk d + 1
  | .slice elems spare => uptoBulkAll elems + uptoBulkAll spare + 1
  | .agg parts => uptoBulkAll parts + 1
  | .iface _ d => uptoBulk d + 1
  | .map entries => uptoBulkEntries entries + 1
  | .held _ => 1
def uptoBulkAll {H : Type} : List (DataW H) → Nat
  | [] => 0
  | d :: r => uptoBulk d + uptoBulkAll r
def uptoBulkEntries {H : Type} : List (Lit × DataW H) → Nat
  | [] => 0
  | x :: r => uptoBulkEntry x + uptoBulkEntries r
def uptoBulkEntry {H : Type} : Lit × DataW H → Nat
  | (.string bytes, d) => bytes.length + uptoBulk d + 1
  | (_, d) => uptoBulk d + 1
 end
def uptoSmall : (H : Type) → List (DataW H) → Bool := fun _ ds => decide (uptoBulkAll ds ≤ 1048576)
def OpenSpec.upto (s : _root_.Go.ChangeSpec) : _root_.Go.OpenSpec := { _root_.Go.OpenSpec.ofChange s with cond := some uptoSmall }

/-- 'forebaylaw09.ExprCuts', WHERE WHAT IT READS IS OF BULK AT MOST 1048576: true; the input reads as it did. -/
def exprCutsUptoRow : OpenClaim := { program := "ytbdennijmfgdpaa", sum := "308cc437be3998b81ef92b57a2c90ab6fe11eb7ebbe8863b0c2fc7a54fe96d43", func := "forebay/forebaylaw09.ExprCuts", spec := "exprCuts", inPlace := ["math/bits.Add64"], unfollowed := true, recurses := true, apart := false, narrowed := true }
def ExprCutsUptoSaid : Prop := exprCutsUptoRow.holds Try.pinned (OpenSpec.upto exprCutsSpec)

/-- 'forebaylaw09.ExprSays', WHERE WHAT IT READS IS OF BULK AT MOST 1048576: true; the input reads as it did. -/
def exprSaysUptoRow : OpenClaim := { program := "ytbdennijmfgdpaa", sum := "308cc437be3998b81ef92b57a2c90ab6fe11eb7ebbe8863b0c2fc7a54fe96d43", func := "forebay/forebaylaw09.ExprSays", spec := "exprSays", inPlace := ["math/bits.Add64"], unfollowed := true, recurses := true, apart := false, narrowed := true }
def ExprSaysUptoSaid : Prop := exprSaysUptoRow.holds Try.pinned (OpenSpec.upto exprSaysSpec)

/-- 'forebaylaw09.ExprBatches', WHERE WHAT IT READS IS OF BULK AT MOST 1048576: true; the input reads as it did. -/
def exprBatchesUptoRow : OpenClaim := { program := "ytbdennijmfgdpaa", sum := "308cc437be3998b81ef92b57a2c90ab6fe11eb7ebbe8863b0c2fc7a54fe96d43", func := "forebay/forebaylaw09.ExprBatches", spec := "exprBatches", inPlace := ["math/bits.Add64"], unfollowed := true, recurses := true, apart := false, narrowed := true }
def ExprBatchesUptoSaid : Prop := exprBatchesUptoRow.holds Try.pinned (OpenSpec.upto exprBatchesSpec)

/-- 'forebaylaw09.ExprSome', WHERE WHAT IT READS IS OF BULK AT MOST 1048576: true; the input reads as it did. -/
def exprSomeUptoRow : OpenClaim := { program := "ytbdennijmfgdpaa", sum := "308cc437be3998b81ef92b57a2c90ab6fe11eb7ebbe8863b0c2fc7a54fe96d43", func := "forebay/forebaylaw09.ExprSome", spec := "exprSome", inPlace := ["math/bits.Add64"], unfollowed := true, recurses := true, apart := false, narrowed := true }
def ExprSomeUptoSaid : Prop := exprSomeUptoRow.holds Try.pinned (OpenSpec.upto exprSomeSpec)

/-- 'forebaylaw09.ExprItself', WHERE WHAT IT READS IS OF BULK AT MOST 1048576: true; the input reads as it did. -/
def exprItselfUptoRow : OpenClaim := { program := "ytbdennijmfgdpaa", sum := "308cc437be3998b81ef92b57a2c90ab6fe11eb7ebbe8863b0c2fc7a54fe96d43", func := "forebay/forebaylaw09.ExprItself", spec := "exprItself", inPlace := ["math/bits.Add64"], unfollowed := true, recurses := true, apart := false, narrowed := true }
def ExprItselfUptoSaid : Prop := exprItselfUptoRow.holds Try.pinned (OpenSpec.upto exprItselfSpec)

/-- 'forebaylaw16.RecPuts', WHERE WHAT IT READS IS OF BULK AT MOST 1048576: true; the input reads as it did. -/
def recPutsUptoRow : OpenClaim := { program := "ytbdennijmfgdpaa", sum := "308cc437be3998b81ef92b57a2c90ab6fe11eb7ebbe8863b0c2fc7a54fe96d43", func := "forebay/forebaylaw16.RecPuts", spec := "recPuts", inPlace := ["math/bits.Add64"], unfollowed := true, recurses := true, apart := false, narrowed := true }
def RecPutsUptoSaid : Prop := recPutsUptoRow.holds Try.pinned (OpenSpec.upto recPutsSpec)

/-- 'forebaylaw16.RecDecs', WHERE WHAT IT READS IS OF BULK AT MOST 1048576: true; the input reads as it did. -/
def recDecsUptoRow : OpenClaim := { program := "ytbdennijmfgdpaa", sum := "308cc437be3998b81ef92b57a2c90ab6fe11eb7ebbe8863b0c2fc7a54fe96d43", func := "forebay/forebaylaw16.RecDecs", spec := "recDecs", inPlace := ["math/bits.Add64"], unfollowed := true, recurses := true, apart := false, narrowed := true }
def RecDecsUptoSaid : Prop := recDecsUptoRow.holds Try.pinned (OpenSpec.upto recDecsSpec)

/-- 'forebaylaw16.RecBack', WHERE WHAT IT READS IS OF BULK AT MOST 1048576: true; the input reads as it did. -/
def recBackUptoRow : OpenClaim := { program := "ytbdennijmfgdpaa", sum := "308cc437be3998b81ef92b57a2c90ab6fe11eb7ebbe8863b0c2fc7a54fe96d43", func := "forebay/forebaylaw16.RecBack", spec := "recBack", inPlace := ["math/bits.Add64"], unfollowed := true, recurses := true, apart := false, narrowed := true }
def RecBackUptoSaid : Prop := recBackUptoRow.holds Try.pinned (OpenSpec.upto recBackSpec)

/-- 'forebaylaw16.RecOnly', WHERE WHAT IT READS IS OF BULK AT MOST 1048576: true; the input reads as it did. -/
def recOnlyUptoRow : OpenClaim := { program := "ytbdennijmfgdpaa", sum := "308cc437be3998b81ef92b57a2c90ab6fe11eb7ebbe8863b0c2fc7a54fe96d43", func := "forebay/forebaylaw16.RecOnly", spec := "recOnly", inPlace := ["math/bits.Add64"], unfollowed := true, recurses := true, apart := false, narrowed := true }
def RecOnlyUptoSaid : Prop := recOnlyUptoRow.holds Try.pinned (OpenSpec.upto recOnlySpec)

end Rows
end Go.Proofs.Ytbdennijmfgdpaa
