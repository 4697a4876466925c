/- The laws of dictionaries: what they share; no condition. -/
import Derived.Test.YtclbmdblalgdjaaZNDictGet
import Derived.Test.YtclbmdblalgdjaaZNInjV
namespace Go.Proofs.Ytclbmdblalgdjaa
open Go.RowKit Go.Proofs.YtclbmdblalgdjaaW.PrintWords Go.Proofs.YtclbmdblalgdjaaW.PrintLast Go.Proofs.YtclbmdblalgdjaaW.PrintMore
set_option linter.unusedVariables false
set_option linter.unusedSimpArgs false
theorem lit_C {w : World} (e : TypeId) (xs : List Int) (hl : xs.length ≤ 9223372036854775807) : (Kd.int .u8).C (w.alloc (.cells (nums .u8 xs).toArray e)) (some ⟨w.heap.size, 0, none⟩) xs.length xs := by
  obtain ⟨A, c, e1, _, h⟩ := Kd.R_reads (R_lit_u8 (w := w) (base := 0) e (Nat.zero_le _) xs hl)
  injection e1 with e1
  subst e1
  exact h
theorem getD_mem {l : List ByteArray} {i : Nat} (h : i < l.length) : l.getD i ByteArray.empty ∈ l := by
  rw [List.getD_eq_getElem?_getD, List.getElem?_eq_getElem h]
  exact List.getElem_mem h
end Go.Proofs.Ytclbmdblalgdjaa
