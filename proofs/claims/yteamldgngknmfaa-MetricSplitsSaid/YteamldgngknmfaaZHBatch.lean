/- Package batch: Check; no condition. -/
import Derived.Test.YteamldgngknmfaaZHMetRow
namespace Go.Proofs.Yteamldgngknmfaa
open Go.RowKit Go.Proofs.YteamldgngknmfaaW.PrintWords Go.Proofs.YteamldgngknmfaaW.PrintLast Go.Proofs.YteamldgngknmfaaW.PrintMore Go.Proofs.Yteamldgngknmfaa.PE
set_option linter.unusedVariables false
set_option linter.unusedSimpArgs false
attribute [local go_sem] ea_fn ea_depth Fence.wide_round Oper.semAt_some
def eaLeft (n : Nat) : Value → Nat
  | .int _ k => n - k.toNat
  | _ => 0
abbrev kBool : Kd Bool := Kd.scalar Value.bool (fun _ => rfl)
end Go.Proofs.Yteamldgngknmfaa
