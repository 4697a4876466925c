/- The document's answer for metrics tells what package metric's Check tells; plain; no condition. -/
import Derived.Test.YtclbmdblalgdjaaZNRDec
import Derived.Test.YtclbmdblalgdjaaZNInjV
import Derived.Test.YtclbmdblalgdjaaZNPEx7
namespace Go.Proofs.Ytclbmdblalgdjaa.PE
open Go.RowKit Go.Proofs.YtclbmdblalgdjaaW.PrintWords Go.Proofs.YtclbmdblalgdjaaW.PrintLast Go.Proofs.YtclbmdblalgdjaaW.PrintMore Go.Proofs.Ytclbmdblalgdjaa
set_option linter.unusedVariables false
set_option linter.unusedSimpArgs false
theorem txOk_iff (c : Int) (s : ByteArray) (lo hi : Int) (hc : betB c 1 4 = true) (hl : 0 ≤ lo ∧ lo ≤ hi) : txOk c s lo hi = true ↔ lo ≤ (s.size : Int) ∧ (s.size : Int) ≤ hi ∧ badI (clsB c) s < 0 := by
  unfold txOk textW
  rw [if_neg (by rw [hc]; simp; omega)]
  by_cases h1 : (s.size : Int) < lo
  · rw [if_pos h1]
    simp
    omega
  · rw [if_neg h1]
    by_cases h2 : hi < (s.size : Int)
    · rw [if_pos h2]
      simp
      omega
    · rw [if_neg h2]
      by_cases h3 : 0 ≤ badI (clsB c) s
      · rw [if_pos h3]
        simp
        omega
      · rw [if_neg h3]
        simp
        omega
end Go.Proofs.Ytclbmdblalgdjaa.PE
