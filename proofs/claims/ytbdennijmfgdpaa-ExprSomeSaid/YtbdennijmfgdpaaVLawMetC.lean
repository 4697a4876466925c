/- What the laws' rows open: a slice of metrics; no condition. -/
import Derived.Test.YtbdennijmfgdpaaVLawMetB
namespace Go.Proofs.Ytbdennijmfgdpaa
open Go.RowKit Go.ChangeShapes Go.WideShapes Go.Deep Go.Proofs.YtbdennijmfgdpaaW.PrintWords Go.Proofs.Ytbdennijmfgdpaa.PE
set_option linter.unusedVariables false
section
variable {H : Type} {enc : TypeId × Value → H} {w : World} {base b0 : Nat} {spare : Nat → Bool} {held : Bool} {v : Value} {d : DataW H} {ps : List MemPlace} {r : Reach}
theorem met_cellsK (n : Nat) (cs : List Value) (y : DataW H × List MemPlace) (h : DataW.trod enc Try.prog w base spare held n 25 cs = some y) : ∃ m : S25, k25.K w m cs ∧ metIn m = true := by
  obtain ⟨m, Av, cv, At, ct, rfl, hm, hi⟩ := met_cells n cs y h
  exact ⟨m, k25_mk w m hm.vc hm.v hm.tc hm.t, hi⟩
set_option maxRecDepth 100000 in
theorem open_mets (hv : Value.okWide Try.prog w r b0 28 v) (h : DataW.Trod enc Try.prog w base spare held 28 v d ps) :
    ∃ (l : List S25) (A : Option Addr) (c : Nat), v = .slice A l.length c ∧ k25.C w A l.length l ∧ l.length ≤ c ∧ ∀ m ∈ l, metIn m = true := by
  obtain ⟨a, len, cap, rfl⟩ := okWide_slice Try.underlying28 hv
  obtain ⟨fuel, hf⟩ := h
  obtain ⟨A, c, xs, hcs, hC, hq, hl, _⟩ := one_rowK (dk := k25) z25 (Q := fun x => metIn x = true) Try.underlying28 (by kernel_rfl) met_cellsK hf
  simp only [Value.cells] at hcs
  injection hcs with hcs _
  injection hcs with h1 h2 h3
  subst h1 h2 h3
  exact ⟨xs, _, _, rfl, hC, hl, hq⟩
end
end Go.Proofs.Ytbdennijmfgdpaa
