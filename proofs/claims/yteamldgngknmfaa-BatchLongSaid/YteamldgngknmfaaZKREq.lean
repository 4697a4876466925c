/- The document's answer: are two metrics the same, as they stand; plain; no condition. -/
import Derived.Test.YteamldgngknmfaaZKRFew
import Derived.Test.YteamldgngknmfaaZKPEx4
namespace Go.Proofs.Yteamldgngknmfaa.PE
open Go.RowKit Go.Proofs.YteamldgngknmfaaW.PrintWords Go.Proofs.YteamldgngknmfaaW.PrintLast Go.Proofs.YteamldgngknmfaaW.PrintMore Go.Proofs.Yteamldgngknmfaa
set_option linter.unusedVariables false
set_option linter.unusedSimpArgs false
theorem ba_inj {x y : ByteArray} (h : x.toList = y.toList) : x = y := by
  rw [ByteArray.toList_eq, ByteArray.toList_eq] at h
  cases x; cases y
  congr 1
  exact Array.ext' h
theorem ba_beq (x y : ByteArray) : (x.toList == y.toList) = decide (x = y) := by
  by_cases h : x = y
  · subst h; simp
  · rw [decide_eq_false h]
    exact beq_eq_false_iff_ne.mpr fun h2 => h (ba_inj h2)
theorem tagEq_iff (a b : S37) : ((!((a.f0.toList) == (b.f0.toList)) || (!((a.f1.toList) == (b.f1.toList)))) = true) ↔ a ≠ b := by
  rw [ba_beq, ba_beq]
  cases a with | mk a0 a1 => cases b with | mk b0 b1 =>
  by_cases h0 : a0 = b0 <;> by_cases h1 : a1 = b1 <;> simp [h0, h1]
theorem decEq_iff (a b : S40) : ((!((a.f0) == (b.f0)) || (!((a.f1) == (b.f1)) || (!((a.f2) == (b.f2))))) = true) ↔ a ≠ b := by
  cases a with | mk a0 a1 a2 => cases b with | mk b0 b1 b2 =>
  by_cases h0 : a0 = b0 <;> by_cases h1 : a1 = b1 <;> by_cases h2 : a2 = b2 <;> simp [h0, h1, h2]
end Go.Proofs.Yteamldgngknmfaa.PE
