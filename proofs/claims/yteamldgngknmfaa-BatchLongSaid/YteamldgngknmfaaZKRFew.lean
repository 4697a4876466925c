/- Few, of a metric; the elements of rows; plain; no condition. -/
import Derived.Test.YteamldgngknmfaaZKRDec
import Derived.Test.YteamldgngknmfaaZKLawMetB
import Derived.Test.YteamldgngknmfaaZKPEx8
import Derived.Test.YteamldgngknmfaaZKPEx4
namespace Go.Proofs.Yteamldgngknmfaa.PE
open Go.RowKit Go.Proofs.YteamldgngknmfaaW.PrintWords Go.Proofs.YteamldgngknmfaaW.PrintLast Go.Proofs.YteamldgngknmfaaW.PrintMore Go.Proofs.Yteamldgngknmfaa
set_option linter.unusedVariables false
set_option linter.unusedSimpArgs false
theorem rd_dec (l : List S40) (i : Nat) (h : i < l.length) : rd_T40 l (i : Int) = l[i]'h := by
  unfold rd_T40
  rw [Int.toNat_natCast, List.getD_eq_getElem?_getD, List.getElem?_eq_getElem h]
  rfl
theorem rd_tag (l : List S37) (i : Nat) (h : i < l.length) : rd_T37 l (i : Int) = l[i]'h := by
  unfold rd_T37
  rw [Int.toNat_natCast, List.getD_eq_getElem?_getD, List.getElem?_eq_getElem h]
  rfl
theorem rd_met (l : List S25) (i : Nat) (h : i < l.length) : rd_T25 l (i : Int) = l[i]'h := by
  unfold rd_T25
  rw [Int.toNat_natCast, List.getD_eq_getElem?_getD, List.getElem?_eq_getElem h]
  rfl
theorem w1 (i : Nat) (h : i < 9223372036854775807) : wrap64 ((i : Int) + 1) = ((i + 1 : Nat) : Int) := by
  rw [IntWalk.wrap64_in ((i : Int) + 1) (by omega)]
  omega
theorem few_l0 (m : S25) (hl : m.f4.length ≤ 40) : ∀ (d i : Nat), i + d = m.f4.length → ∃ b, Ev (fun k => forebaylaw07_Few.l0 k (i : Int) m.f0 m.f1 m.f2 m.f3 m.f4 m.f5) b := by
  intro d
  induction d with
  | zero =>
    intro i hi
    refine ⟨true, Ev.step (f := fun _ => some true) (fun k => ?_) (Ev.now _)⟩
    simp only [forebaylaw07_Few.l0]
    rw [if_neg (by omega)]
  | succ d ih =>
    intro i hi
    obtain ⟨b, h1⟩ := ih (i + 1) (by omega)
    by_cases h2 : (((rd_T37 m.f4 (i : Int)).f0).size : Int) > 150
    · refine ⟨false, Ev.step (f := fun _ => some false) (fun k => ?_) (Ev.now _)⟩
      simp only [forebaylaw07_Few.l0]
      rw [if_pos (by omega), if_pos (by omega), if_pos h2]
    · by_cases h3 : (((rd_T37 m.f4 (i : Int)).f1).size : Int) > 150
      · refine ⟨false, Ev.step (f := fun _ => some false) (fun k => ?_) (Ev.now _)⟩
        simp only [forebaylaw07_Few.l0]
        rw [if_pos (by omega), if_pos (by omega), if_neg h2, if_pos h3]
      · refine ⟨b, Ev.step (fun k => ?_) h1⟩
        simp only [forebaylaw07_Few.l0]
        rw [if_pos (by omega), if_pos (by omega), if_neg h2, if_neg h3, w1 i (by omega)]
theorem few_ev (m : S25) : ∃ b, Ev (fun k => forebaylaw07_Few.f k m.f0 m.f1 m.f2 m.f3 m.f4 m.f5) b ∧ (b = true → m.f2.length ≤ 80 ∧ m.f4.length ≤ 40) := by
  have hj : Ev (fun k => forebaylaw07_Few.j0 k true m.f0 m.f1 m.f2 m.f3 m.f4 m.f5) false := Ev.step (f := fun _ => some false) (fun k => by simp only [forebaylaw07_Few.j0]; rfl) (Ev.now _)
  unfold forebaylaw07_Few.f
  by_cases h1 : (m.f0.size : Int) > 300
  · exact ⟨false, Ev.congr (fun k => if_pos h1) hj, fun h => by cases h⟩
  · by_cases h2 : (m.f2.length : Int) > 80
    · exact ⟨false, Ev.congr (fun k => by rw [if_neg h1, if_pos h2]) hj, fun h => by cases h⟩
    · by_cases h3 : (m.f4.length : Int) > 40
      · exact ⟨false, Ev.congr (fun k => by rw [if_neg h1, if_neg h2, decide_eq_true h3]) hj, fun h => by cases h⟩
      · obtain ⟨b, hb⟩ := few_l0 m (by omega) m.f4.length 0 (by omega)
        refine ⟨b, Ev.congr (f := fun k => forebaylaw07_Few.j0 k false m.f0 m.f1 m.f2 m.f3 m.f4 m.f5) (fun k => by rw [if_neg h1, if_neg h2, decide_eq_false h3]) (Ev.step (fun k => ?_) hb), fun _ => by omega⟩
        simp only [forebaylaw07_Few.j0]
        rw [if_neg (by decide)]
        rfl
end Go.Proofs.Yteamldgngknmfaa.PE
