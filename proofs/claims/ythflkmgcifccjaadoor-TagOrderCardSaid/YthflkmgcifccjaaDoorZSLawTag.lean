/- What the laws' rows open: a tag by value, a slice of tags; no condition. -/
import Derived.Test.YthflkmgcifccjaaDoorZSLawMet
import Derived.Test.YthflkmgcifccjaaDoorZSInjT
import Derived.Deep.Fields
import Derived.ChangeArms
namespace Go.Proofs.YthflkmgcifccjaaDoor
open Go.RowKit Go.ChangeShapes Go.WideShapes Go.Deep Go.Proofs.YthflkmgcifccjaaDoorW.PrintWords Go.Proofs.YthflkmgcifccjaaDoor.PE
set_option linter.unusedVariables false
section
variable {H : Type} {enc : TypeId × Value → H} {P : Program} {w : World} {base b0 : Nat} {spare : Nat → Bool} {held : Bool} {t e : TypeId} {v : Value} {d : DataW H} {ps : List MemPlace} {r : Reach}
theorem fields_of {fs : Array Field} {fuel : Nat} {cs : List Value} {x : DataW H × List MemPlace} (ht : P.underlying t = some (.struct fs)) (hone : oneCellFields P fs = true) (h : DataW.trod enc P w base spare held fuel t cs = some x) :
    cs.length = P.cellsOf t ∧ ∃ n, ∀ (i : Nat) (f : Field) (c : Value), fs[i]? = some f → cs[i]? = some c → ∃ y, DataW.trod enc P w base spare held n f.type [c] = some y := by
  obtain ⟨xs, n, _, _, hl, hx, hf⟩ := DataW.trod_struct ht h
  refine ⟨hl, n, fun i f c hi hc => ?_⟩
  obtain ⟨ho, hk⟩ := hone_of hone i f hi
  have h1 := hf i f hi
  obtain ⟨hlt, hc'⟩ := List.getElem?_eq_some_iff.1 hc
  rw [ho, hk, List.drop_eq_getElem_cons hlt, hc'] at h1
  have hlx : i < xs.length := by rw [hx]; exact (Array.getElem?_eq_some_iff.1 hi).1
  rw [List.getElem?_eq_getElem hlx] at h1
  exact ⟨_, h1⟩
end
section
variable {H : Type} {enc : TypeId × Value → H} {w : World} {base b0 : Nat} {spare : Nat → Bool} {held : Bool} {v : Value} {d : DataW H} {ps : List MemPlace} {r : Reach}
theorem tag_cells (n : Nat) (cs : List Value) (y : DataW H × List MemPlace) (h : DataW.trod enc Tryd.prog w base spare held n 34 cs = some y) : ∃ x : S34, k34.K w x cs ∧ tagIn x = true := by
  obtain ⟨hl, n1, hf⟩ := fields_of Tryd.underlying34 (by kernel_rfl) h
  rw [show Tryd.prog.cellsOf 34 = 2 from by kernel_rfl] at hl
  match cs, hl with
  | [c0, c1], _ =>
    obtain ⟨y0, h0⟩ := hf 0 _ c0 rfl rfl
    obtain ⟨y1, h1⟩ := hf 1 _ c1 rfl rfl
    obtain ⟨s0, hs0, hw0⟩ := one_str Tryd.underlying9 h0
    obtain ⟨s1, hs1, hw1⟩ := one_str Tryd.underlying9 h1
    injection hs0 with hs0 _
    injection hs1 with hs1 _
    subst hs0 hs1
    refine ⟨⟨s0, s1⟩, k34_mk w _, ?_⟩
    unfold maxLen at hw0 hw1
    unfold tagIn
    simp
    omega
theorem list6 {α : Type} (l : List α) (h : (⟨l⟩ : Array α).size = 6) : ∃ a b c d e f, l = [a, b, c, d, e, f] := by
  match l, h with
  | [a, b, c, d, e, f], _ => exact ⟨a, b, c, d, e, f, rfl⟩
set_option maxRecDepth 100000 in
theorem open_tag3 (hv : Value.okWide Tryd.prog w r b0 40 v) (h : DataW.Trod enc Tryd.prog w base spare held 40 v d ps) :
    ∃ x y z : S34, v = .agg #[.string x.f0, .string x.f1, .string y.f0, .string y.f1, .string z.f0, .string z.f1] ∧ tagIn x = true ∧ tagIn y = true ∧ tagIn z = true := by
  obtain ⟨cs, rfl, hsz, _⟩ : ∃ cs, v = .agg cs ∧ cs.size = Tryd.prog.cellsOf 40 ∧ Row.okWide Tryd.prog w r b0 40 cs := by
    have := hv
    simpa [Value.okWide, Tryd.underlying40] using this
  rw [show Tryd.prog.cellsOf 40 = 6 from by kernel_rfl] at hsz
  obtain ⟨l⟩ := cs
  obtain ⟨c0, c1, c2, c3, c4, c5, rfl⟩ := list6 l hsz
  obtain ⟨fuel, hf⟩ := h
  obtain ⟨xs, n, _, _, _, hx, hel⟩ := DataW.trod_array Tryd.underlying40 hf
  have hce : Tryd.prog.cellsOf 34 = 2 := by kernel_rfl
  have he : ∀ i, i < 3 → ∃ y, DataW.trod enc Tryd.prog w base spare held n 34 (([c0, c1, c2, c3, c4, c5].drop (i * 2)).take 2) = some y := fun i hi => by
    have := hel i hi
    rw [hce, List.getElem?_eq_getElem (show i < xs.length by omega)] at this
    exact ⟨_, this⟩
  obtain ⟨y0, h0⟩ := he 0 (by decide)
  obtain ⟨y1, h1⟩ := he 1 (by decide)
  obtain ⟨y2, h2⟩ := he 2 (by decide)
  obtain ⟨x, kx, ix⟩ := tag_cells _ _ _ h0
  obtain ⟨y, ky, iy⟩ := tag_cells _ _ _ h1
  obtain ⟨z, kz, iz⟩ := tag_cells _ _ _ h2
  have ex : [c0, c1] = [.string x.f0, .string x.f1] := k34_open kx
  have ey : [c2, c3] = [.string y.f0, .string y.f1] := k34_open ky
  have ez : [c4, c5] = [.string z.f0, .string z.f1] := k34_open kz
  injection ex with e0 ex
  injection ex with e1 _
  injection ey with e2 ey
  injection ey with e3 _
  injection ez with e4 ez
  injection ez with e5 _
  subst e0 e1 e2 e3 e4 e5
  exact ⟨x, y, z, rfl, ix, iy, iz⟩
end
end Go.Proofs.YthflkmgcifccjaaDoor
