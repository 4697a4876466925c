/- What is got is put as just the bytes that it was got of: plain lists; no condition. -/
import Derived.Test.YtclbmdblalgdjaaZNPlBack
import Derived.Test.YtclbmdblalgdjaaZNDictGet
namespace Go.Proofs.Ytclbmdblalgdjaa
open Go.RowKit Go.Proofs.YtclbmdblalgdjaaW.PrintWords
set_option linter.unusedVariables false
theorem fail_any (s : Cu) (c a : Int) (hc : c ≠ 0) : (s.fail c a).fine = false := by
  cases h : s.fine with
  | true => exact fail_fine h hc
  | false => rw [fail_off h]; exact h
theorem dget_sane {ws : List ByteArray} {s : Cu} {kind : Int} (h : s.sane) : (dget ws s kind).2.1.sane := by
  unfold dget
  split
  · exact h
  · split
    · exact h.fail _ _
    · split
      · exact h.vread
      · split
        · have h2 := h.vread
          have h3 : (dfs2 s.vread.2).sane := by
            unfold dfs2
            split
            · exact h2.vread.fail _ _
            · exact h2.vread
          have h4 : (dfs3 s.vread.2).sane := h3.take _
          unfold dfresh
          split
          · exact h2.fail _ _
          · split
            · exact h4
            · split
              · exact h4.fail _ _
              · split
                · exact h4.fail _ _
                · exact h4
        · split
          · exact h.vread.fail _ _
          · split
            · exact h.vread.fail _ _
            · exact h.vread
end Go.Proofs.Ytclbmdblalgdjaa
