/- Words that are put, one behind the other; no condition. -/
import Derived.Test.YtclbmdblalgdjaaZNLaw15B
namespace Go.Proofs.Ytclbmdblalgdjaa
open Go.RowKit Go.Proofs.YtclbmdblalgdjaaW.PrintWords Go.Proofs.YtclbmdblalgdjaaW.PrintLast Go.Proofs.YtclbmdblalgdjaaW.PrintMore
set_option linter.unusedVariables false
def putsW (ws : List ByteArray) : List ByteArray → List ByteArray
  | [] => ws
  | s :: t => putsW (dput ws s).2.2 t
theorem putsW_snoc (s : ByteArray) : ∀ (ws l : List ByteArray), putsW ws (l ++ [s]) = (dput (putsW ws l) s).2.2
  | ws, [] => rfl
  | ws, x :: l => putsW_snoc s _ l
theorem dput_len (ws : List ByteArray) (s : ByteArray) : (dput ws s).2.2.length ≤ ws.length + 1 := by
  unfold dput
  split
  · simp
  · split
    · simp
    · simp
theorem putsW_len : ∀ (ws l : List ByteArray), (putsW ws l).length ≤ ws.length + l.length
  | ws, [] => by simp [putsW]
  | ws, x :: l => by
    have h1 := putsW_len (dput ws x).2.2 l
    have h2 := dput_len ws x
    show (putsW (dput ws x).2.2 l).length ≤ _
    simp only [List.length_cons]
    omega
theorem take_next {l : List ByteArray} {i : Int} (h0 : 0 ≤ i) (h1 : i < l.length) : l.take (i + 1).toNat = l.take i.toNat ++ [l.getD i.toNat ByteArray.empty] := by
  have e : (i + 1).toNat = i.toNat + 1 := by omega
  have h2 : i.toNat < l.length := by omega
  rw [e, List.take_succ_eq_append_getElem h2, List.getD_eq_getElem?_getD, List.getElem?_eq_getElem h2]
  rfl
theorem putsW_take {l : List ByteArray} {i : Int} (h0 : 0 ≤ i) (h1 : i < l.length) : putsW [] (l.take (i + 1).toNat) = (dput (putsW [] (l.take i.toNat)) (l.getD i.toNat ByteArray.empty)).2.2 := by
  rw [take_next h0 h1, putsW_snoc]
end Go.Proofs.Ytclbmdblalgdjaa
