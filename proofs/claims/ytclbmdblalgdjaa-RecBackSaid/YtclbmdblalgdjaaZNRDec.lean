/- The document's answer for numbers tells what package dec's Check tells; plain; no condition. -/
import Derived.Test.YtclbmdblalgdjaaZNInjV
import Derived.Test.YtclbmdblalgdjaaZNPEx5
namespace Go.Proofs.Ytclbmdblalgdjaa.PE
open Go.RowKit Go.Proofs.YtclbmdblalgdjaaW.PrintWords Go.Proofs.YtclbmdblalgdjaaW.PrintLast Go.Proofs.YtclbmdblalgdjaaW.PrintMore Go.Proofs.Ytclbmdblalgdjaa
set_option linter.unusedVariables false
set_option linter.unusedSimpArgs false
def dgS (n : Nat) : ByteArray := ⟨(dg n).toArray⟩
theorem dg1_fin : ∀ d : Fin 10, (⟨#[48, 49, 50, 51, 52, 53, 54, 55, 56, 57]⟩ : ByteArray).extract d.val (d.val + 1) = ⟨#[UInt8.ofNat (48 + d.val)]⟩ := by decide +kernel
theorem dg1 (d : Nat) (h : d < 10) : (⟨#[48, 49, 50, 51, 52, 53, 54, 55, 56, 57]⟩ : ByteArray).extract d (d + 1) = ⟨#[UInt8.ofNat (48 + d)]⟩ := dg1_fin ⟨d, h⟩
end Go.Proofs.Ytclbmdblalgdjaa.PE
