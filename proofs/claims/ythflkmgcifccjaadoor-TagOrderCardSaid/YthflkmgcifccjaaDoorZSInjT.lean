/- forebayref04.Text and tag.Check in the printed form; for what is in bounds. -/
import Derived.Test.YthflkmgcifccjaaDoorZSTag
import Derived.Test.YthflkmgcifccjaaDoorZSClsB
import Derived.Test.YthflkmgcifccjaaDoorZSPEx0
namespace Go.Proofs.YthflkmgcifccjaaDoor.PE
open Go.RowKit Go.Proofs.YthflkmgcifccjaaDoorW.PrintWords Go.Proofs.YthflkmgcifccjaaDoorW.PrintLast Go.Proofs.YthflkmgcifccjaaDoorW.PrintMore
set_option linter.unusedVariables false
set_option linter.unusedSimpArgs false
def tagIn (t : S34) : Bool := decide (t.f0.size ≤ 9223372036854775807) && decide (t.f1.size ≤ 9223372036854775807)
def tag_Check.f (a0 a1 : ByteArray) : Option Int := if a0.size ≤ 9223372036854775807 ∧ a1.size ≤ 9223372036854775807 then some (tagBad a0 a1) else none
theorem tag_Check.calls (a0 a1 : ByteArray) (r : Int) (w : World) (h : tag_Check.f a0 a1 = some r) :
    Calls Tryd.prog 16 #[.agg #[.string a0, .string a1]] w fun e w' => e = .returned (.int .i64 r) ∧ Below w.heap.size w w' := by
  unfold tag_Check.f at h
  split at h
  · rename_i hq
    rw [← Option.some.inj h]
    exact tagcheck_calls a0 a1 w hq.1 hq.2
  · cases h
def forebayref04_Text.f (a0 : Int) (a1 : ByteArray) (a2 : Int) (a3 : Int) : Option (Int × Int) := if betB a0 1 4 = true ∧ (0 ≤ a2 ∧ a2 ≤ a3) ∧ a1.size ≤ 9223372036854775807 then some (textW a0 a1 a2 a3) else none
end Go.Proofs.YthflkmgcifccjaaDoor.PE
