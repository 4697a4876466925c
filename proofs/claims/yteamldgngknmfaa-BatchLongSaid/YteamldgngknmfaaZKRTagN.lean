/- The document's order of tags and its one form of tags are package tag's; plain; no condition. -/
import Derived.Test.YteamldgngknmfaaZKREq
import Derived.Test.YteamldgngknmfaaZKTagPl
import Derived.Test.YteamldgngknmfaaZKPEx10
import Derived.Test.YteamldgngknmfaaZKPEx9
namespace Go.Proofs.Yteamldgngknmfaa.PE
open Go.RowKit Go.Proofs.YteamldgngknmfaaW.PrintWords Go.Proofs.YteamldgngknmfaaW.PrintLast Go.Proofs.YteamldgngknmfaaW.PrintMore Go.Proofs.Yteamldgngknmfaa
set_option linter.unusedVariables false
set_option linter.unusedSimpArgs false
def tIns (t : S37) : List S37 → List S37
  | [] => [t]
  | x :: l => if tLt x t = true then x :: tIns t l else if tEq x t = true then x :: l else t :: x :: l
def tPut (l out : List S37) : List S37 := l.foldl (fun o t => tIns t o) out
end Go.Proofs.Yteamldgngknmfaa.PE
