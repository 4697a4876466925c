/- What the laws' rows open: two slices of whole numbers, by value; no condition. -/
import Derived.Test.YtmbfjaogimkncaaLawKit
import Derived.ChangeMaps5
namespace Go.Proofs.Ytmbfjaogimkncaa
open Go.RowKit Go.ChangeShapes Go.WideShapes Go.Proofs.YtmbfjaogimkncaaW.PrintWords
section
variable {H : Type} {enc : TypeId × Value → H} {P : Program} {w : World} {base b0 : Nat} {spare : Nat → Bool} {held : Bool} {t e f : TypeId} {v : Value} {d : DataW H} {ps : List MemPlace} {r : Reach}
theorem list2' {α : Type} (l : List α) (h : (⟨l⟩ : Array α).size = 2) : ∃ a b, l = [a, b] := by
  match l, h with
  | [a, b], _ => exact ⟨a, b, rfl⟩
theorem trod_pair' {fuel : Nat} {c0 c1 : Value} {x : DataW H × List MemPlace} (ht : P.underlying t = some (.array 2 e)) (hce : P.cellsOf e = 1)
    (h : DataW.trod enc P w base spare held fuel t [c0, c1] = some x) :
    ∃ y0 y1 n, x = (.agg [y0.1, y1.1], y0.2 ++ y1.2) ∧ DataW.trod enc P w base spare held n e [c0] = some y0 ∧ DataW.trod enc P w base spare held n e [c1] = some y1 := by
  cases fuel with
  | zero => simp [DataW.trod] at h
  | succ n =>
    unfold DataW.trod at h
    rw [ht] at h
    have r2 : List.range 2 = [0, 1] := rfl
    simp [r2, hce] at h
    obtain ⟨_, h⟩ := h
    cases h0 : DataW.trod enc P w base spare held n e [c0] with
    | none => simp [h0] at h
    | some y0 =>
      cases h1 : DataW.trod enc P w base spare held n e [c1] with
      | none => simp [h0, h1] at h
      | some y1 =>
        simp [h0, h1] at h
        exact ⟨y0, y1, n, h.symm, h0, h1⟩
theorem row_cell {k : IntKind} {n : Nat} {c : Value} {y : DataW H × List MemPlace} (hu : P.underlying e = some (.slice f)) (he : P.underlying f = some (.int k)) (hcf : P.cellsOf f = 1) (h : DataW.trod enc P w base spare held n e [c] = some y) :
    ∃ a len cap, ∃ xs : List Int, c = .slice a len cap ∧ (Kd.int k).C w a len xs ∧ (∀ x ∈ xs, (Lit.int k x).wf = true) ∧ len ≤ cap := by
  rcases open_ints hu he hcf h with ⟨hcs, _⟩ | ⟨x, l, c1, zs, hcs, _, hl, hm, hz, _, hcell, hwz⟩
  · injection hcs with hcs _
    exact ⟨none, 0, 0, [], hcs, Kd.C_nil _ _, by simp, Nat.le_refl _⟩
  · injection hcs with hcs _
    have hz' : l ≤ zs.length := by
      rw [hz]
      split
      · exact hl
      · exact Nat.le_refl _
    refine ⟨some x, l, c1, zs.take l, hcs, Kd.C_of_reads (enc := Value.int k) (d := (0 : Int)) (h1 := fun _ => rfl) ⟨by simp; omega, by simp only [maxLen] at hm; omega, fun _ => ⟨_, rfl, fun j hj => ?_⟩⟩, fun y hy => hwz y (List.mem_of_mem_take hy), hl⟩
    rw [hcell j (by omega)]
    congr 2
    rw [List.getD_eq_getElem?_getD, List.getD_eq_getElem?_getD, List.getElem?_take_of_lt hj]
theorem open_rows2 {k : IntKind} (ht : P.underlying t = some (.array 2 e)) (hu : P.underlying e = some (.slice f)) (he : P.underlying f = some (.int k)) (hcf : P.cellsOf f = 1) (hce : P.cellsOf e = 1) (hC : P.cellsOf t = 2) (hv : Value.okWide P w r b0 t v) (h : DataW.Trod enc P w base spare held t v d ps) :
    ∃ a0 c0, ∃ xs0 : List Int, ∃ a1 c1, ∃ xs1 : List Int, v = .agg #[.slice a0 xs0.length c0, .slice a1 xs1.length c1] ∧ ((Kd.int k).C w a0 xs0.length xs0 ∧ (∀ x ∈ xs0, (Lit.int k x).wf = true) ∧ xs0.length ≤ c0) ∧ ((Kd.int k).C w a1 xs1.length xs1 ∧ (∀ x ∈ xs1, (Lit.int k x).wf = true) ∧ xs1.length ≤ c1) := by
  obtain ⟨cs, rfl, hsz, _⟩ : ∃ cs, v = .agg cs ∧ cs.size = P.cellsOf t ∧ Row.okWide P w r b0 t cs := by
    have := hv
    simpa [Value.okWide, ht] using this
  rw [hC] at hsz
  obtain ⟨l⟩ := cs
  obtain ⟨c0, c1, rfl⟩ := list2' l hsz
  obtain ⟨fuel, hf⟩ := h
  obtain ⟨y0, y1, n, hx, h0, h1⟩ := trod_pair' ht hce hf
  obtain ⟨a0, n0, k0, xs0, rfl, g0, w0, l0⟩ := row_cell hu he hcf h0
  obtain ⟨a1, n1, k1, xs1, rfl, g1, w1, l1⟩ := row_cell hu he hcf h1
  obtain rfl := g0.1
  obtain rfl := g1.1
  exact ⟨a0, k0, xs0, a1, k1, xs1, rfl, ⟨g0, w0, l0⟩, ⟨g1, w1, l1⟩⟩
end
end Go.Proofs.Ytmbfjaogimkncaa
