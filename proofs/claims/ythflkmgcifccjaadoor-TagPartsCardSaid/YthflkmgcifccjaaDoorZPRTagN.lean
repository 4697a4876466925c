/- The document's order of tags and its one form of tags are package tag's; plain; no condition. -/
import Derived.Test.YthflkmgcifccjaaDoorZPTagE
import Derived.Test.YthflkmgcifccjaaDoorZPTagPl
import Derived.Test.YthflkmgcifccjaaDoorZPPEx4
import Derived.Test.YthflkmgcifccjaaDoorZPPEx5
namespace Go.Proofs.YthflkmgcifccjaaDoor.PE
open Go.RowKit Go.Proofs.YthflkmgcifccjaaDoorW.PrintWords Go.Proofs.YthflkmgcifccjaaDoorW.PrintLast Go.Proofs.YthflkmgcifccjaaDoorW.PrintMore Go.Proofs.YthflkmgcifccjaaDoor
set_option linter.unusedVariables false
set_option linter.unusedSimpArgs false
def tIns (t : S34) : List S34 → List S34
  | [] => [t]
  | x :: l => if tLt x t = true then x :: tIns t l else if tEq x t = true then x :: l else t :: x :: l
def tPut (l out : List S34) : List S34 := l.foldl (fun o t => tIns t o) out
end Go.Proofs.YthflkmgcifccjaaDoor.PE
