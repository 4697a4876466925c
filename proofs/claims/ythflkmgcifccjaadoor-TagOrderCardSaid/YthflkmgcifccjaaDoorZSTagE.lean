/- Tags: small facts; plain; no condition. -/
import Derived.Test.YthflkmgcifccjaaDoorZSInjT
namespace Go.Proofs.YthflkmgcifccjaaDoor.PE
open Go.RowKit Go.Proofs.YthflkmgcifccjaaDoorW.PrintWords Go.Proofs.YthflkmgcifccjaaDoorW.PrintLast Go.Proofs.YthflkmgcifccjaaDoorW.PrintMore Go.Proofs.YthflkmgcifccjaaDoor
set_option linter.unusedVariables false
set_option linter.unusedSimpArgs false
theorem rd_tag (l : List S34) (i : Nat) (h : i < l.length) : rd_T34 l (i : Int) = l[i]'h := by
  unfold rd_T34
  rw [Int.toNat_natCast, List.getD_eq_getElem?_getD, List.getElem?_eq_getElem h]
  rfl
theorem w1 (i : Nat) (h : i < 9223372036854775807) : wrap64 ((i : Int) + 1) = ((i + 1 : Nat) : Int) := by
  rw [IntWalk.wrap64_in ((i : Int) + 1) (by omega)]
  omega
theorem ba_inj {x y : ByteArray} (h : x.toList = y.toList) : x = y := by
  rw [ByteArray.toList_eq, ByteArray.toList_eq] at h
  cases x; cases y
  congr 1
  exact Array.ext' h
theorem ba_beq (x y : ByteArray) : (x.toList == y.toList) = decide (x = y) := by
  by_cases h : x = y
  · subst h; simp
  · rw [decide_eq_false h]
    exact beq_eq_false_iff_ne.mpr fun h2 => h (ba_inj h2)
theorem tagEq_iff (a b : S34) : ((!((a.f0.toList) == (b.f0.toList)) || (!((a.f1.toList) == (b.f1.toList)))) = true) ↔ a ≠ b := by
  rw [ba_beq, ba_beq]
  cases a with | mk a0 a1 => cases b with | mk b0 b1 =>
  by_cases h0 : a0 = b0 <;> by_cases h1 : a1 = b1 <;> simp [h0, h1]
end Go.Proofs.YthflkmgcifccjaaDoor.PE
