/- What the laws' rows open: a struct of slices of structs, by value; no condition. -/
import Derived.Test.YteamldgngknmfaaZHBase
import Derived.ProofKit
import Derived.ShutString
import Derived.ChangeOld
import Derived.SizedLaws
import Derived.ChangeSlices
import Derived.SliceStrings
import Derived.ChangeMaps5
import Derived.Deep.Slices
import Derived.Deep.Strs
namespace Go.Proofs.Yteamldgngknmfaa
open Go.RowKit Go.ChangeShapes Go.WideShapes Go.Proofs.YteamldgngknmfaaW.PrintWords
section
variable {H : Type} {enc : TypeId × Value → H} {P : Program} {w : World} {base b0 : Nat} {spare : Nat → Bool} {held : Bool} {t e f : TypeId} {v : Value} {d : DataW H} {ps : List MemPlace} {r : Reach}
theorem one_bool {n : Nat} {cs : List Value} {y : DataW H × List MemPlace} (hu : P.underlying t = some .bool) (h : DataW.trod enc P w base spare held n t cs = some y) : ∃ b, cs = [.bool b] := by
  cases n with
  | zero => simp [DataW.trod] at h
  | succ n =>
    unfold DataW.trod at h
    rw [hu] at h
    split at h <;> simp_all
theorem one_int {k : IntKind} {n : Nat} {cs : List Value} {y : DataW H × List MemPlace} (hu : P.underlying t = some (.int k)) (h : DataW.trod enc P w base spare held n t cs = some y) : ∃ x, cs = [.int k x] ∧ (Lit.int k x).wf = true := by
  cases n with
  | zero => simp [DataW.trod] at h
  | succ n =>
    unfold DataW.trod at h
    rw [hu] at h
    split at h <;> simp_all
theorem one_str {n : Nat} {cs : List Value} {y : DataW H × List MemPlace} (hu : P.underlying t = some .string) (h : DataW.trod enc P w base spare held n t cs = some y) : ∃ s, cs = [.string s] ∧ s.size ≤ maxLen := by
  cases n with
  | zero => simp [DataW.trod] at h
  | succ n =>
    unfold DataW.trod at h
    rw [hu] at h
    split at h <;> simp_all
theorem one_rowK {α : Type} {dk : Kd α} (z : α) {Q : α → Prop} (hu : P.underlying t = some (.slice e)) (hc : P.cellsOf e = dk.sz)
    (hel : ∀ n cs y, DataW.trod enc P w base spare held n e cs = some y → ∃ x, dk.K w x cs ∧ Q x) {n : Nat} {cs : List Value} {y : DataW H × List MemPlace} (h : DataW.trod enc P w base spare held n t cs = some y) :
    ∃ A c, ∃ xs : List α, cs = [.slice A xs.length c] ∧ dk.C w A xs.length xs ∧ (∀ x ∈ xs, Q x) ∧ xs.length ≤ c ∧ xs.length ≤ maxLen := by
  rcases Deep.open_slice hu h with ⟨rfl, _⟩ | ⟨a, len, cap, m, n1, D, Pl, rfl, _, hl, hm, hmm, _, hx⟩
  · exact ⟨none, 0, [], rfl, Kd.C_nil _ _, by simp, Nat.le_refl _, by simp⟩
  have hlm : len ≤ m := by rw [hmm]; split <;> omega
  have : Inhabited α := ⟨z⟩
  obtain ⟨X, hX⟩ := Deep.choose_lt (α := α) (n := len) (p := fun i x => Q x ∧ ∃ c, c.length = dk.sz ∧ dk.K w x c ∧ ∀ j u, c[j]? = some u → w.cell? (a.add (i * dk.sz + j)) = some u) (fun i hi => by
    obtain ⟨cs', h1, h2⟩ := hx i (by omega)
    obtain ⟨x, hK, hQ⟩ := hel _ _ _ h2
    rw [hc] at h1
    obtain ⟨_, hlen, hcell⟩ := World.cells?_some h1
    refine ⟨x, hQ, cs', hlen, hK, fun j u hj => ?_⟩
    have hjl : j < dk.sz := by
      obtain ⟨hj', _⟩ := List.getElem?_eq_some_iff.1 hj
      omega
    have := hcell j hjl
    rw [Deep.add_add] at this
    rw [this, hj])
  refine ⟨some a, cap, (List.range len).map X, by simp, ⟨rfl, by simp only [maxLen] at hm; simp; omega, fun _ => ⟨a, rfl, fun j p hj => ?_⟩⟩, ?_, by simpa using hl, by simp; omega⟩
  · obtain ⟨hj', rfl⟩ := List.getElem?_eq_some_iff.1 hj
    have hj2 : j < len := by simpa using hj'
    obtain ⟨_, c, h1, h2, h3⟩ := hX j hj2
    simp only [List.getElem_map, List.getElem_range]
    exact ⟨c, h1, h2, h3⟩
  · intro x hxm
    obtain ⟨i, hi, rfl⟩ := List.mem_map.1 hxm
    exact (hX i (List.mem_range.1 hi)).1
end
end Go.Proofs.Yteamldgngknmfaa
