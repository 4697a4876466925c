/- What the laws' rows open: a tag by value, a slice of tags; no condition. -/
import Derived.Test.YthflkmgcifccjaaDoorZRLawMet
import Derived.Test.YthflkmgcifccjaaDoorZRInjT
import Derived.Deep.Fields
import Derived.ChangeArms
namespace Go.Proofs.YthflkmgcifccjaaDoor
open Go.RowKit Go.ChangeShapes Go.WideShapes Go.Deep Go.Proofs.YthflkmgcifccjaaDoorW.PrintWords Go.Proofs.YthflkmgcifccjaaDoor.PE
set_option linter.unusedVariables false
section
variable {H : Type} {enc : TypeId × Value → H} {P : Program} {w : World} {base b0 : Nat} {spare : Nat → Bool} {held : Bool} {t e : TypeId} {v : Value} {d : DataW H} {ps : List MemPlace} {r : Reach}
theorem fields_of {fs : Array Field} {fuel : Nat} {cs : List Value} {x : DataW H × List MemPlace} (ht : P.underlying t = some (.struct fs)) (hone : oneCellFields P fs = true) (h : DataW.trod enc P w base spare held fuel t cs = some x) :
    cs.length = P.cellsOf t ∧ ∃ n, ∀ (i : Nat) (f : Field) (c : Value), fs[i]? = some f → cs[i]? = some c → ∃ y, DataW.trod enc P w base spare held n f.type [c] = some y := by
  obtain ⟨xs, n, _, _, hl, hx, hf⟩ := DataW.trod_struct ht h
  refine ⟨hl, n, fun i f c hi hc => ?_⟩
  obtain ⟨ho, hk⟩ := hone_of hone i f hi
  have h1 := hf i f hi
  obtain ⟨hlt, hc'⟩ := List.getElem?_eq_some_iff.1 hc
  rw [ho, hk, List.drop_eq_getElem_cons hlt, hc'] at h1
  have hlx : i < xs.length := by rw [hx]; exact (Array.getElem?_eq_some_iff.1 hi).1
  rw [List.getElem?_eq_getElem hlx] at h1
  exact ⟨_, h1⟩
end
section
variable {H : Type} {enc : TypeId × Value → H} {w : World} {base b0 : Nat} {spare : Nat → Bool} {held : Bool} {v : Value} {d : DataW H} {ps : List MemPlace} {r : Reach}
theorem tag_cells (n : Nat) (cs : List Value) (y : DataW H × List MemPlace) (h : DataW.trod enc Tryd.prog w base spare held n 34 cs = some y) : ∃ x : S34, k34.K w x cs ∧ tagIn x = true := by
  obtain ⟨hl, n1, hf⟩ := fields_of Tryd.underlying34 (by kernel_rfl) h
  rw [show Tryd.prog.cellsOf 34 = 2 from by kernel_rfl] at hl
  match cs, hl with
  | [c0, c1], _ =>
    obtain ⟨y0, h0⟩ := hf 0 _ c0 rfl rfl
    obtain ⟨y1, h1⟩ := hf 1 _ c1 rfl rfl
    obtain ⟨s0, hs0, hw0⟩ := one_str Tryd.underlying9 h0
    obtain ⟨s1, hs1, hw1⟩ := one_str Tryd.underlying9 h1
    injection hs0 with hs0 _
    injection hs1 with hs1 _
    subst hs0 hs1
    refine ⟨⟨s0, s1⟩, k34_mk w _, ?_⟩
    unfold maxLen at hw0 hw1
    unfold tagIn
    simp
    omega
set_option maxRecDepth 100000 in
theorem open_tags (hv : Value.okWide Tryd.prog w r b0 23 v) (h : DataW.Trod enc Tryd.prog w base spare held 23 v d ps) :
    ∃ (l : List S34) (A : Option Addr) (c : Nat), v = .slice A l.length c ∧ k34.C w A l.length l ∧ l.length ≤ c ∧ ∀ t ∈ l, tagIn t = true := by
  obtain ⟨a, len, cap, rfl⟩ := okWide_slice Tryd.underlying23 hv
  obtain ⟨fuel, hf⟩ := h
  obtain ⟨A, c, xs, hcs, hC, hq, hl, _⟩ := one_rowK (dk := k34) z34 (Q := fun x => tagIn x = true) Tryd.underlying23 (by kernel_rfl) tag_cells hf
  simp only [Value.cells] at hcs
  injection hcs with hcs _
  injection hcs with h1 h2 h3
  subst h1 h2 h3
  exact ⟨xs, _, _, rfl, hC, hl, hq⟩
end
end Go.Proofs.YthflkmgcifccjaaDoor
