/- The document's Parse tells what package tag's Parse tells; plain; for texts of up to 1000000 bytes. -/
import Derived.Test.YthflkmgcifccjaaDoorZRRTagP
import Derived.Test.YthflkmgcifccjaaDoorZRPEx3
import Derived.Test.YthflkmgcifccjaaDoorZRPEx4
namespace Go.Proofs.YthflkmgcifccjaaDoor.PE
open Go.RowKit Go.Proofs.YthflkmgcifccjaaDoorW.PrintWords Go.Proofs.YthflkmgcifccjaaDoorW.PrintLast Go.Proofs.YthflkmgcifccjaaDoorW.PrintMore Go.Proofs.YthflkmgcifccjaaDoor
set_option linter.unusedVariables false
set_option linter.unusedSimpArgs false
def oneL (k v : List UInt8) : List UInt8 := if v = [] then k else k ++ 58 :: v
theorem bt_get (s : ByteArray) (i : Nat) (h : i < s.data.toList.length) : bt s (i : Int) = ((s.data.toList[i]'h).toNat : Int) := by
  obtain ⟨⟨l⟩⟩ := s
  unfold bt
  rw [dif_pos (show ((i : Int)).toNat < (ByteArray.mk ⟨l⟩).size by rw [Int.toNat_natCast]; exact h)]
  rfl
end Go.Proofs.YthflkmgcifccjaaDoor.PE
