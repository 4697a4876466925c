/- The document's Parse tells what package tag's Parse tells; plain; for texts of up to 1000000 bytes. -/
import Derived.Test.YthflkmgcifccjaaDoorZBRTagP
import Derived.Test.YthflkmgcifccjaaDoorZBPEx3
import Derived.Test.YthflkmgcifccjaaDoorZBPEx4
namespace Go.Proofs.YthflkmgcifccjaaDoor.PE
open Go.RowKit Go.Proofs.YthflkmgcifccjaaDoorW.PrintWords Go.Proofs.YthflkmgcifccjaaDoorW.PrintLast Go.Proofs.YthflkmgcifccjaaDoorW.PrintMore Go.Proofs.YthflkmgcifccjaaDoor
set_option linter.unusedVariables false
set_option linter.unusedSimpArgs false
theorem refright_f (k v : ByteArray) (hk : k.size ≤ 9223372036854775807) (hv : v.size ≤ 9223372036854775807) : forebayref06_Right.f k v = some (decide (tagBad k v = 0)) := by
  have h1 : forebayref04_Text.f 2 k 1 64 = some (textW 2 k 1 64) := by unfold forebayref04_Text.f; rw [if_pos ⟨by decide, by omega, hk⟩]
  have h2 : forebayref04_Text.f 3 v 0 100 = some (textW 3 v 0 100) := by unfold forebayref04_Text.f; rw [if_pos ⟨by decide, by omega, hv⟩]
  unfold forebayref06_Right.f
  rw [h1, h2]
  simp only [Option.bind_some]
  unfold tagBad
  have e1 : ((textW 2 k 1 64).1 == 0 && ((textW 2 k 1 64).2 == 0)) = txOk 2 k 1 64 := rfl
  have e2 : ((textW 3 v 0 100).1 == 0 && ((textW 3 v 0 100).2 == 0)) = txOk 3 v 0 100 := rfl
  rw [e1, e2]
  generalize txOk 2 k 1 64 = x
  generalize txOk 3 v 0 100 = y
  cases x <;> cases y <;> rfl
end Go.Proofs.YthflkmgcifccjaaDoor.PE
