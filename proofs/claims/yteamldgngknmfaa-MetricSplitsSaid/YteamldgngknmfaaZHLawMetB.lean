/- What the laws' rows open: a metric, by value or in a row; no condition. -/
import Derived.Test.YteamldgngknmfaaZHLawMet
import Derived.Test.YteamldgngknmfaaZHMetRow
import Derived.Deep.Fields
import Derived.ChangeArms
namespace Go.Proofs.Yteamldgngknmfaa
open Go.RowKit Go.ChangeShapes Go.WideShapes Go.Deep Go.Proofs.YteamldgngknmfaaW.PrintWords Go.Proofs.Yteamldgngknmfaa.PE
set_option linter.unusedVariables false
section
variable {H : Type} {enc : TypeId × Value → H} {P : Program} {w : World} {base b0 : Nat} {spare : Nat → Bool} {held : Bool} {t e : TypeId} {v : Value} {d : DataW H} {ps : List MemPlace} {r : Reach}
theorem fields_of {fs : Array Field} {fuel : Nat} {cs : List Value} {x : DataW H × List MemPlace} (ht : P.underlying t = some (.struct fs)) (hone : oneCellFields P fs = true) (h : DataW.trod enc P w base spare held fuel t cs = some x) :
    cs.length = P.cellsOf t ∧ ∃ n, ∀ (i : Nat) (f : Field) (c : Value), fs[i]? = some f → cs[i]? = some c → ∃ y, DataW.trod enc P w base spare held n f.type [c] = some y := by
  obtain ⟨xs, n, _, _, hl, hx, hf⟩ := DataW.trod_struct ht h
  refine ⟨hl, n, fun i f c hi hc => ?_⟩
  obtain ⟨ho, hk⟩ := hone_of hone i f hi
  have h1 := hf i f hi
  obtain ⟨hlt, hc'⟩ := List.getElem?_eq_some_iff.1 hc
  rw [ho, hk, List.drop_eq_getElem_cons hlt, hc'] at h1
  have hlx : i < xs.length := by rw [hx]; exact (Array.getElem?_eq_some_iff.1 hi).1
  rw [List.getElem?_eq_getElem hlx] at h1
  exact ⟨_, h1⟩
end
section
variable {H : Type} {enc : TypeId × Value → H} {w : World} {base b0 : Nat} {spare : Nat → Bool} {held : Bool} {v : Value} {d : DataW H} {ps : List MemPlace} {r : Reach}
theorem dec_cells (n : Nat) (cs : List Value) (y : DataW H × List MemPlace) (h : DataW.trod enc Try.prog w base spare held n 40 cs = some y) : ∃ x : S40, k40.K w x cs ∧ decIn x = true := by
  obtain ⟨hl, n1, hf⟩ := fields_of Try.underlying40 (by kernel_rfl) h
  rw [show Try.prog.cellsOf 40 = 3 from by kernel_rfl] at hl
  match cs, hl with
  | [c0, c1, c2], _ =>
    obtain ⟨y0, h0⟩ := hf 0 _ c0 rfl rfl
    obtain ⟨y1, h1⟩ := hf 1 _ c1 rfl rfl
    obtain ⟨y2, h2⟩ := hf 2 _ c2 rfl rfl
    obtain ⟨b, hb⟩ := one_bool Try.underlying4 h0
    obtain ⟨x1, hx1, hw1⟩ := one_int Try.underlying38 h1
    obtain ⟨x2, hx2, hw2⟩ := one_int Try.underlying3 h2
    injection hb with hb _
    injection hx1 with hx1 _
    injection hx2 with hx2 _
    subst hb hx1 hx2
    refine ⟨⟨b, x1, x2⟩, k40_mk w _, ?_⟩
    have := bounds_u64 hw1
    have := bounds_i64 hw2
    unfold decIn
    simp
    omega
theorem tag_cells (n : Nat) (cs : List Value) (y : DataW H × List MemPlace) (h : DataW.trod enc Try.prog w base spare held n 37 cs = some y) : ∃ x : S37, k37.K w x cs ∧ tagIn x = true := by
  obtain ⟨hl, n1, hf⟩ := fields_of Try.underlying37 (by kernel_rfl) h
  rw [show Try.prog.cellsOf 37 = 2 from by kernel_rfl] at hl
  match cs, hl with
  | [c0, c1], _ =>
    obtain ⟨y0, h0⟩ := hf 0 _ c0 rfl rfl
    obtain ⟨y1, h1⟩ := hf 1 _ c1 rfl rfl
    obtain ⟨s0, hs0, hw0⟩ := one_str Try.underlying9 h0
    obtain ⟨s1, hs1, hw1⟩ := one_str Try.underlying9 h1
    injection hs0 with hs0 _
    injection hs1 with hs1 _
    subst hs0 hs1
    refine ⟨⟨s0, s1⟩, k37_mk w _, ?_⟩
    unfold maxLen at hw0 hw1
    unfold tagIn
    simp
    omega
theorem met_cells (n : Nat) (cs : List Value) (y : DataW H × List MemPlace) (h : DataW.trod enc Try.prog w base spare held n 25 cs = some y) :
    ∃ (m : S25) (Av : Option Addr) (cv : Nat) (At : Option Addr) (ct : Nat), cs = [.string m.f0, .int .i64 m.f1, .slice Av m.f2.length cv, .int .i64 m.f3, .slice At m.f4.length ct, .int .i64 m.f5] ∧ MetC m Av cv At ct w ∧ metIn m = true := by
  obtain ⟨hl, n1, hf⟩ := fields_of Try.underlying25 (by kernel_rfl) h
  rw [show Try.prog.cellsOf 25 = 6 from by kernel_rfl] at hl
  match cs, hl with
  | [c0, c1, c2, c3, c4, c5], _ =>
    obtain ⟨y0, h0⟩ := hf 0 _ c0 rfl rfl
    obtain ⟨y1, h1⟩ := hf 1 _ c1 rfl rfl
    obtain ⟨y2, h2⟩ := hf 2 _ c2 rfl rfl
    obtain ⟨y3, h3⟩ := hf 3 _ c3 rfl rfl
    obtain ⟨y4, h4⟩ := hf 4 _ c4 rfl rfl
    obtain ⟨y5, h5⟩ := hf 5 _ c5 rfl rfl
    obtain ⟨s0, hs0, hw0⟩ := one_str Try.underlying9 h0
    obtain ⟨x1, hx1, _⟩ := one_int Try.underlying3 h1
    obtain ⟨Av, cv, vs, hx2, hC2, hq2, hl2, _⟩ := one_rowK (dk := k40) z40 (Q := fun x => decIn x = true) Try.underlying22 (by kernel_rfl) dec_cells h2
    obtain ⟨x3, hx3, _⟩ := one_int Try.underlying3 h3
    obtain ⟨At, ct, ts, hx4, hC4, hq4, hl4, _⟩ := one_rowK (dk := k37) z37 (Q := fun x => tagIn x = true) Try.underlying23 (by kernel_rfl) tag_cells h4
    obtain ⟨x5, hx5, _⟩ := one_int Try.underlying3 h5
    injection hs0 with hs0 _
    injection hx1 with hx1 _
    injection hx2 with hx2 _
    injection hx3 with hx3 _
    injection hx4 with hx4 _
    injection hx5 with hx5 _
    subst hs0 hx1 hx2 hx3 hx4 hx5
    have hin : metIn (⟨s0, x1, vs, x3, ts, x5⟩ : S25) = true := by
      unfold metIn
      unfold maxLen at hw0
      simp only [Bool.and_eq_true, decide_eq_true_eq, List.all_eq_true]
      exact ⟨by omega, hq2, hq4⟩
    exact ⟨⟨s0, x1, vs, x3, ts, x5⟩, Av, cv, At, ct, rfl, metC_of hC2 hl2 hC4 hl4 hin, hin⟩
set_option maxRecDepth 100000 in
theorem open_metric (hv : Value.okWide Try.prog w r b0 25 v) (h : DataW.Trod enc Try.prog w base spare held 25 v d ps) :
    ∃ (m : S25) (Av : Option Addr) (cv : Nat) (At : Option Addr) (ct : Nat), v = .agg #[.string m.f0, .int .i64 m.f1, .slice Av m.f2.length cv, .int .i64 m.f3, .slice At m.f4.length ct, .int .i64 m.f5] ∧ MetC m Av cv At ct w ∧ metIn m = true := by
  obtain ⟨cs, rfl, _⟩ := okWide_struct Try.underlying25 hv
  obtain ⟨fuel, hf⟩ := h
  obtain ⟨m, Av, cv, At, ct, hcs, h1, h2⟩ := met_cells _ _ _ hf
  refine ⟨m, Av, cv, At, ct, ?_, h1, h2⟩
  exact congrArg Value.agg (Array.ext' hcs)
end
end Go.Proofs.Yteamldgngknmfaa
