/- TagBack: what is written is parsed, and what is parsed is written as it stood; plain; no condition. -/
import Derived.Test.YthflkmgcifccjaaDoorZPRTagL
import Derived.Test.YthflkmgcifccjaaDoorZPPEx7
namespace Go.Proofs.YthflkmgcifccjaaDoor.PE
open Go.RowKit Go.Proofs.YthflkmgcifccjaaDoorW.PrintWords Go.Proofs.YthflkmgcifccjaaDoorW.PrintLast Go.Proofs.YthflkmgcifccjaaDoorW.PrintMore Go.Proofs.YthflkmgcifccjaaDoor
set_option linter.unusedVariables false
set_option linter.unusedSimpArgs false
theorem cut_app (c : UInt8) (a b : List UInt8) (h : c ∉ a) : Lib.cut (a ++ c :: b) [c] = (a, b, true) := by
  unfold Lib.cut
  rw [idx_app c a b h, if_pos (by omega)]
  simp
theorem cut_none (c : UInt8) (l : List UInt8) (h : c ∉ l) : Lib.cut l [c] = (l, [], false) := by
  unfold Lib.cut
  rw [idx_none c l h, if_neg (by omega)]
def oneT (t : S34) : List UInt8 := oneL t.f0.data.toList t.f1.data.toList
theorem step_of {p : ByteArray} {t : S34} (h : tStep p = some t) : tagBad t.f0 t.f1 = 0 ∧ oneT t = p.data.toList := by
  unfold tStep at h
  split at h
  · rename_i hq
    obtain rfl := (Option.some.inj h).symm
    refine ⟨hq.1, ?_⟩
    show oneL (Lib.cut p.data.toList [58]).1 (Lib.cut p.data.toList [58]).2.1 = p.data.toList
    by_cases hm : (58 : UInt8) ∈ p.data.toList
    · obtain ⟨a, b, e, ha⟩ := List.eq_append_cons_of_mem hm
      have ec : Lib.cut p.data.toList [58] = (a, b, true) := by rw [e]; exact cut_app 58 a b ha
      have hb : ¬ b = [] := fun hb => hq.2 ⟨by rw [ec], by rw [ec]; exact hb⟩
      rw [ec]
      exact (if_neg hb).trans e.symm
    · rw [cut_none 58 _ hm]
      exact if_pos rfl
  · cases h
def tX : List S34 → List (List UInt8) → Nat → ByteArray × Int × Int
  | [], out, _ => (mkB (Lib.join out [44]), 0, 0)
  | t :: l, out, i => if tagBad t.f0 t.f1 = 0 then tX l (out ++ [oneT t]) (i + 1) else (⟨#[]⟩, (i : Int), 19)
theorem tP_cases : ∀ (ps : List ByteArray) (out : List S34) (o : Nat),
    (∃ ts : List S34, tP ps out o = (out ++ ts, 0, 0) ∧ ts.length = ps.length ∧ (∀ t ∈ ts, tagBad t.f0 t.f1 = 0) ∧ ts.map oneT = ps.map (·.data.toList)) ∨
    (∃ a : Nat, tP ps out o = ([], 19, (a : Int)) ∧ o ≤ a ∧ a + 1 ≤ o + (ps.map fun p => p.size + 1).sum)
  | [], out, o => .inl ⟨[], by simp [tP], rfl, by simp, rfl⟩
  | p :: ps, out, o => by
    rw [tP]
    cases h : tStep p with
    | none => exact .inr ⟨o, rfl, Nat.le_refl _, by simp; omega⟩
    | some t =>
      simp only
      have hs := step_of h
      rcases tP_cases ps (out ++ [t]) (o + p.size + 1) with ⟨ts, h1, h2, h3, h4⟩ | ⟨a, h1, h2, h3⟩
      · refine .inl ⟨t :: ts, by rw [h1]; simp, by simp [h2], fun x hx => ?_, by simp [h4, hs.2]⟩
        rcases List.mem_cons.1 hx with rfl | hx
        · exact hs.1
        · exact h3 x hx
      · exact .inr ⟨a, h1, by omega, by simp; omega⟩
theorem spl_sum (c : UInt8) : ∀ l, ((spl c l).map fun p => p.length + 1).sum = l.length + 1
  | [] => by simp [spl]
  | b :: l => by
    have ih := spl_sum c l
    obtain ⟨q, qs, hq⟩ := List.exists_cons_of_ne_nil (spl_ne c l)
    rw [hq] at ih
    rw [spl, hq]
    split <;> simp at * <;> omega
theorem pcs_sum (l : List UInt8) : ((pcsL l).map fun p => p.size + 1).sum = l.length + 1 := by
  have h := spl_sum 44 l
  unfold pcsL
  rw [List.map_map]
  exact h
def bad1 : List S34 → Nat → Int
  | [], _ => -1
  | t :: l, i => if tagBad t.f0 t.f1 = 0 then bad1 l (i + 1) else (i : Int)
end Go.Proofs.YthflkmgcifccjaaDoor.PE
