/- What the laws' rows open: two of a kind, by value; no condition. -/
import Derived.Test.YthflkmgcifccjaaDoorZPBase
import Derived.ProofKit
import Derived.ShutString
import Derived.ChangeOld
import Derived.SizedLaws
import Derived.ChangeSlices
import Derived.SliceStrings
import Derived.ChangeMaps5
namespace Go.Proofs.YthflkmgcifccjaaDoor
open Go.RowKit Go.ChangeShapes Go.WideShapes Go.Proofs.YthflkmgcifccjaaDoorW.PrintWords
section
variable {H : Type} {enc : TypeId × Value → H} {P : Program} {w : World} {base b0 : Nat} {spare : Nat → Bool} {held : Bool} {t e : TypeId} {v : Value} {d : DataW H} {ps : List MemPlace} {r : Reach}
theorem list2 {α : Type} (l : List α) (h : (⟨l⟩ : Array α).size = 2) : ∃ a b, l = [a, b] := by
  match l, h with
  | [a, b], _ => exact ⟨a, b, rfl⟩
theorem trod_pair {fuel : Nat} {c0 c1 : Value} {x : DataW H × List MemPlace} (ht : P.underlying t = some (.array 2 e)) (hce : P.cellsOf e = 1)
    (h : DataW.trod enc P w base spare held fuel t [c0, c1] = some x) :
    ∃ y0 y1 n, x = (.agg [y0.1, y1.1], y0.2 ++ y1.2) ∧ DataW.trod enc P w base spare held n e [c0] = some y0 ∧ DataW.trod enc P w base spare held n e [c1] = some y1 := by
  cases fuel with
  | zero => simp [DataW.trod] at h
  | succ n =>
    unfold DataW.trod at h
    rw [ht] at h
    have r2 : List.range 2 = [0, 1] := rfl
    simp [r2, hce] at h
    obtain ⟨_, h⟩ := h
    cases h0 : DataW.trod enc P w base spare held n e [c0] with
    | none => simp [h0] at h
    | some y0 =>
      cases h1 : DataW.trod enc P w base spare held n e [c1] with
      | none => simp [h0, h1] at h
      | some y1 =>
        simp [h0, h1] at h
        exact ⟨y0, y1, n, h.symm, h0, h1⟩
theorem open_pair (ht : P.underlying t = some (.array 2 e)) (hce : P.cellsOf e = 1) (hC : P.cellsOf t = 2) (hv : Value.okWide P w r b0 t v) (h : DataW.Trod enc P w base spare held t v d ps) :
    ∃ (c0 c1 : Value) (y0 y1 : DataW H × List MemPlace) (n : Nat), v = .agg #[c0, c1] ∧ d = .agg [y0.1, y1.1] ∧ ps = y0.2 ++ y1.2 ∧ DataW.trod enc P w base spare held n e [c0] = some y0 ∧ DataW.trod enc P w base spare held n e [c1] = some y1 := by
  obtain ⟨cs, rfl, hsz, _⟩ : ∃ cs, v = .agg cs ∧ cs.size = P.cellsOf t ∧ Row.okWide P w r b0 t cs := by
    have := hv
    simpa [Value.okWide, ht] using this
  rw [hC] at hsz
  obtain ⟨l⟩ := cs
  obtain ⟨c0, c1, rfl⟩ := list2 l hsz
  obtain ⟨fuel, hf⟩ := h
  obtain ⟨y0, y1, n, hx, h0, h1⟩ := trod_pair ht hce hf
  simp only [Prod.mk.injEq] at hx
  exact ⟨c0, c1, y0, y1, n, rfl, hx.1, hx.2, h0, h1⟩
theorem shut_pair {c0 c1 : Value} {d0 d1 : DataW H} (ht : P.underlying t = some (.array 2 e)) (hce : P.cellsOf e = 1) (hC : P.cellsOf t = 2)
    (h0 : DataW.trod enc P w base spare held 1 e [c0] = some (d0, [])) (h1 : DataW.trod enc P w base spare held 1 e [c1] = some (d1, [])) :
    DataW.Trod enc P w base spare held t (.agg #[c0, c1]) (.agg [d0, d1]) [] := by
  refine ⟨2, ?_⟩
  have r2 : List.range 2 = [0, 1] := rfl
  unfold DataW.trod
  rw [ht]
  simp [Value.cells, r2, hce, hC, h0, h1]
theorem open_strs2 (ht : P.underlying t = some (.array 2 e)) (he : P.underlying e = some .string) (hce : P.cellsOf e = 1) (hC : P.cellsOf t = 2) (hv : Value.okWide P w r b0 t v) (h : DataW.Trod enc P w base spare held t v d ps) :
    ∃ a b : ByteArray, v = .agg #[.string a, .string b] ∧ d = .agg [.lit (.string a.data.toList), .lit (.string b.data.toList)] ∧ ps = [] ∧ a.size ≤ maxLen ∧ b.size ≤ maxLen := by
  obtain ⟨c0, c1, y0, y1, n, rfl, rfl, rfl, h0, h1⟩ := open_pair ht hce hC hv h
  obtain ⟨a, ea, rfl, wa⟩ := DataW.trod_string he h0
  obtain ⟨b, eb, rfl, wb⟩ := DataW.trod_string he h1
  simp at ea eb
  subst ea eb
  exact ⟨a, b, rfl, rfl, rfl, wa, wb⟩
theorem shut_strs2 {a b : ByteArray} (ht : P.underlying t = some (.array 2 e)) (he : P.underlying e = some .string) (hce : P.cellsOf e = 1) (hC : P.cellsOf t = 2) (wa : a.size ≤ maxLen) (wb : b.size ≤ maxLen) :
    DataW.Trod enc P w base spare held t (.agg #[.string a, .string b]) (.agg [.lit (.string a.data.toList), .lit (.string b.data.toList)]) [] :=
  shut_pair ht hce hC (by simp [DataW.trod, he, wa]) (by simp [DataW.trod, he, wb])
end
end Go.Proofs.YthflkmgcifccjaaDoor
