/- tag.Normal in the printed form; for up to 4398046511103 tags. -/
import Derived.Test.YthflkmgcifccjaaDoorZSTagN
import Derived.Test.YthflkmgcifccjaaDoorZSPEx0
namespace Go.Proofs.YthflkmgcifccjaaDoor.PE
open Go.RowKit Go.Proofs.YthflkmgcifccjaaDoorW.PrintWords Go.Proofs.YthflkmgcifccjaaDoorW.PrintLast Go.Proofs.YthflkmgcifccjaaDoorW.PrintMore
set_option linter.unusedVariables false
set_option linter.unusedSimpArgs false
def tag_Normal.f (l0 : List S34) : Option (List S34) := if l0.length < 4398046511104 then some (tNorm l0) else none
theorem tag_Normal.calls (A0 : Option Addr) (c0 : Nat) (l0 : List S34) (r : List S34) (w : World) (hr0 : Kd.C k34 w A0 l0.length l0) (hc0 : l0.length ≤ c0) (h : tag_Normal.f l0 = some r) :
    Calls Tryd.prog 20 #[.slice A0 l0.length c0] w fun e w' => ∃ v0_ : Value, e = .returned (v0_) ∧ Kd.V k34 34 w' w.heap.size (fun k => w.heap.size ≤ k) v0_ r ∧ Below w.heap.size w w' := by
  unfold tag_Normal.f at h
  split at h
  · rename_i hq
    rw [← Option.some.inj h]
    exact tagnorm_calls l0 A0 c0 w hr0 hc0 hq
  · cases h
end Go.Proofs.YthflkmgcifccjaaDoor.PE
