/- The document's Parse tells what package tag's Parse tells; plain; for texts of up to 1000000 bytes. -/
import Derived.Test.YthflkmgcifccjaaDoorZPRTagP
import Derived.Test.YthflkmgcifccjaaDoorZPPEx3
import Derived.Test.YthflkmgcifccjaaDoorZPPEx4
namespace Go.Proofs.YthflkmgcifccjaaDoor.PE
open Go.RowKit Go.Proofs.YthflkmgcifccjaaDoorW.PrintWords Go.Proofs.YthflkmgcifccjaaDoorW.PrintLast Go.Proofs.YthflkmgcifccjaaDoorW.PrintMore Go.Proofs.YthflkmgcifccjaaDoor
set_option linter.unusedVariables false
set_option linter.unusedSimpArgs false
def oneL (k v : List UInt8) : List UInt8 := if v = [] then k else k ++ 58 :: v
end Go.Proofs.YthflkmgcifccjaaDoor.PE
