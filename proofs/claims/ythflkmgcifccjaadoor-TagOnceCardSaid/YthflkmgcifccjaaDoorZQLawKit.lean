/- What the laws' rows open: a slice of whole numbers that came in; no condition. -/
import Derived.Test.YthflkmgcifccjaaDoorZQBase
import Derived.ProofKit
import Derived.ShutString
import Derived.ChangeOld
import Derived.SizedLaws
import Derived.ChangeSlices
import Derived.SliceStrings
import Derived.Test.YthflkmgcifccjaaDoorZQWSized
namespace Go.Proofs.YthflkmgcifccjaaDoor
open Go.RowKit Go.ChangeShapes Go.WideShapes Go.Proofs.YthflkmgcifccjaaDoorW.PrintWords
theorem open_row {H : Type} {enc : TypeId × Value → H} {P : Program} {W : World} {base : Nat} {spare : Nat → Bool} {held : Bool} {t e : TypeId} {k : IntKind} {a : Option Addr} {len cap : Nat} {d : DataW H} {ps : List MemPlace}
    (hu : P.underlying t = some (.slice e)) (he : P.underlying e = some (.int k)) (hc : P.cellsOf e = 1) (hb : len ≤ 9223372036854775807) (h : DataW.Trod enc P W base spare held t (.slice a len cap) d ps) :
    ∃ xs : List Int, (Kd.int k).C W a len xs ∧ (∀ x ∈ xs, (Lit.int k x).wf = true) ∧ len ≤ cap := by
  obtain ⟨fuel, hf⟩ := h
  rcases open_ints hu he hc hf with ⟨hcs, _⟩ | ⟨x, l, c, zs, hcs, _, hl, hm, hz, _, hcell, hwz⟩
  · simp [Value.cells] at hcs
    obtain ⟨rfl, rfl, rfl⟩ := hcs
    exact ⟨[], Kd.C_nil _ _, by simp, Nat.le_refl _⟩
  · simp [Value.cells] at hcs
    obtain ⟨rfl, rfl, rfl⟩ := hcs
    have hz' : len ≤ zs.length := by
      rw [hz]
      split
      · exact hl
      · exact Nat.le_refl _
    refine ⟨zs.take len, Kd.C_of_reads (enc := Value.int k) (d := (0 : Int)) (h1 := fun _ => rfl) ⟨by simp; omega, hb, fun _ => ⟨_, rfl, fun j hj => ?_⟩⟩, fun y hy => hwz y (List.mem_of_mem_take hy), hl⟩
    rw [hcell j (by omega)]
    congr 2
    rw [List.getD_eq_getElem?_getD, List.getD_eq_getElem?_getD, List.getElem?_take_of_lt hj]
end Go.Proofs.YthflkmgcifccjaaDoor
