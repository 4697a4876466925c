/- Words that are put are got: plain lists; no condition. -/
import Derived.Test.YtclbmdblalgdjaaZMPutsW
import Derived.Test.YtclbmdblalgdjaaZMPlRows
namespace Go.Proofs.Ytclbmdblalgdjaa
open Go.RowKit Go.Proofs.YtclbmdblalgdjaaW.PrintWords
set_option linter.unusedVariables false
theorem find_none {ws : List ByteArray} {s : ByteArray} (h : s ∉ ws) : findW ws s = 0 := by
  have := find_pos ws s
  apply Classical.byContradiction
  intro hn
  exact h (this.1 (by omega))
theorem dput_old {ws : List ByteArray} {s : ByteArray} (h : s ∈ ws) : dput ws s = (vput (findW ws s), 0, ws) := by
  unfold dput
  rw [if_pos ((find_pos _ _).2 h)]
theorem dput_fresh {ws : List ByteArray} {s : ByteArray} (h : s ∉ ws) (hs : s.size ≤ 200) (hl : ws.length < 65536) : dput ws s = (vput 0 ++ vput s.size ++ bytesOf s, 0, ws ++ [s]) := by
  unfold dput
  rw [find_none h, if_neg (by omega), if_neg (by omega)]
theorem dput_long {ws : List ByteArray} {s : ByteArray} (h : s ∉ ws) (hs : 200 < s.size) : dput ws s = ([], 12, ws) := by
  unfold dput
  rw [find_none h, if_neg (by omega), if_pos (.inl hs)]
theorem dput_ok {ws : List ByteArray} {s : ByteArray} (hs : s.size ≤ 200) (hl : ws.length < 65536) : (dput ws s).2.1 = 0 := by
  by_cases h : s ∈ ws
  · rw [dput_old h]
  · rw [dput_fresh h hs hl]
def bytesP (ws : List ByteArray) : List ByteArray → List Int
  | [] => []
  | s :: t => (dput ws s).1 ++ bytesP (dput ws s).2.2 t
theorem dput_len1 (ws : List ByteArray) (s : ByteArray) (hl : ws.length < 65536) : (dput ws s).1.length ≤ 220 := by
  by_cases h : s ∈ ws
  · rw [dput_old h]
    have := vput_len10 (findW ws s) (by have := find_le ws s; omega)
    show (vput (findW ws s)).length ≤ 220
    omega
  · by_cases h2 : s.size ≤ 200
    · rw [dput_fresh h h2 hl]
      have h3 := vput_len10 s.size (by omega)
      show (vput 0 ++ vput s.size ++ bytesOf s).length ≤ 220
      rw [List.length_append, List.length_append, bytesOf_length, vput_lt (by decide)]
      simp only [List.length_cons, List.length_nil]
      omega
    · rw [dput_long h (by omega)]
      show 0 ≤ 220
      omega
end Go.Proofs.Ytclbmdblalgdjaa
