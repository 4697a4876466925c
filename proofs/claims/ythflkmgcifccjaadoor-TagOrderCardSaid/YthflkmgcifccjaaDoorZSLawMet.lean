/- What the laws' rows open: a struct of slices of structs, by value; no condition. -/
import Derived.Test.YthflkmgcifccjaaDoorZSBase
import Derived.ProofKit
import Derived.ShutString
import Derived.ChangeOld
import Derived.SizedLaws
import Derived.ChangeSlices
import Derived.SliceStrings
import Derived.ChangeMaps5
import Derived.Deep.Slices
import Derived.Deep.Strs
namespace Go.Proofs.YthflkmgcifccjaaDoor
open Go.RowKit Go.ChangeShapes Go.WideShapes Go.Proofs.YthflkmgcifccjaaDoorW.PrintWords
section
variable {H : Type} {enc : TypeId × Value → H} {P : Program} {w : World} {base b0 : Nat} {spare : Nat → Bool} {held : Bool} {t e f : TypeId} {v : Value} {d : DataW H} {ps : List MemPlace} {r : Reach}
theorem one_str {n : Nat} {cs : List Value} {y : DataW H × List MemPlace} (hu : P.underlying t = some .string) (h : DataW.trod enc P w base spare held n t cs = some y) : ∃ s, cs = [.string s] ∧ s.size ≤ maxLen := by
  cases n with
  | zero => simp [DataW.trod] at h
  | succ n =>
    unfold DataW.trod at h
    rw [hu] at h
    split at h <;> simp_all
end
end Go.Proofs.YthflkmgcifccjaaDoor
